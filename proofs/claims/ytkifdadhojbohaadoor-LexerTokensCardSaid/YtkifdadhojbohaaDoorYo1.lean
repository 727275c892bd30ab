/- Joined out of the texts of this proof that bear the names PrF14 PvR RowLexerTokens: what each shows stands over it there. -/
import Derived.Test.YtkifdadhojbohaaDoorYb1
import Derived.Test.YtkifdadhojbohaaDoorYa1
import Derived.Test.YtkifdadhojbohaaDoorYc2
import Derived.Test.YtkifdadhojbohaaDoorYs1
import Derived.Test.YtkifdadhojbohaaDoorYd1
import Derived.Test.YtkifdadhojbohaaDoorYt1
import Derived.Test.YtkifdadhojbohaaDoorYr1
import Derived.Test.YtkifdadhojbohaaDoorCards
import Derived.Test.YtkifdadhojbohaaDoorTie
import Derived.WalkKit
import Derived.OpenShut
import Derived.ShutString
import Derived.ChangeOld
import Derived.SizedLaws
import Derived.SevenTiedAt
import Derived.Handed
import Derived.LaidLaws
set_option linter.unusedVariables false
set_option linter.unusedSimpArgs false
namespace Go.Proofs.YtkifdadhojbohaaDoor.Pr
open Go.Proofs.YtkifdadhojbohaaDoor
open Go.RowKit Go.Proofs.YtkifdadhojbohaaDoorW.PrintWords Go.Proofs.YtkifdadhojbohaaDoorW.PrintLast Go.Proofs.YtkifdadhojbohaaDoorW.PrintMore
attribute [local go_sem] max2_int min2_int max_two min_two max_three min_three max_four min_four   -- for this text's walks alone
set_option linter.unusedVariables false
set_option linter.unusedSimpArgs false
attribute [local go_sem high] eqA26
/-! ### salchowlaw09_LexerTokens: function 14 -/
def salchowlaw09_LexerTokens.l0 : Nat → ByteArray → List (S46) → Int → Int → Option (Bool)
  | 0, _, _, _, _ => none
  | k + 1, x0, x3, x5, x6 => if x6 < (x3.length : Int) then (if 0 ≤ x6 then ((lexer_Valid.f k ((rd_T46 x3 x6).f0) ((rd_T46 x3 x6).f1) ((rd_T46 x3 x6).f2) ((rd_T46 x3 x6).f3)).bind fun t256 => (if t256 = true then (if ((rd_T46 x3 x6).f3) ≤ x5 then (none) else (if ((rd_T46 x3 x6).f3) > (x0.size : Int) then (none) else (salchowlaw09_LexerTokens.l0 k x0 x3 ((rd_T46 x3 x6).f3) (wrap64 (x6 + 1))))) else (none))) else (none)) else ((lexer_Join.f k x3).bind fun bt260 => (if bt260.2 = 6 then ((salchowlaw09_awake.f k).bind fun t262 => (if t262 = true then (some (decide ((x0.size : Int) > 30000))) else (none))) else ((lexer_Lex.f k bt260.1).bind fun bt263 => ((salchowlaw09_awake.f k).bind fun t269 => (if t269 = true then (if bt260.2 = 0 then (if (bt263.2.1 == 0 && (bt263.2.2 == 0)) = true then ((salchowref09_Same.f k x3 bt263.1 false).bind fun t270 => (some t270)) else (none)) else (none)) else (none))))))
def salchowlaw09_LexerTokens.f (k : Nat) (a0 : ByteArray) : Option (Bool) := if (a0.size : Int) > 2000 then ((salchowlaw09_awake.f k).bind fun t247 => (some t247)) else ((lexer_Lex.f k a0).bind fun bt248 => (if (!(bt248.2.1 == 0) || (!(bt248.2.2 == 0))) = true then ((salchowlaw09_awake.f k).bind fun t254 => (if t254 = true then (if bt248.2.2 ≥ 0 then (if bt248.2.2 ≤ (a0.size : Int) then (if bt248.2.1 = 0 then (none) else (some ((bt248.1.length : Int) == 0))) else (none)) else (none)) else (none))) else (salchowlaw09_LexerTokens.l0 k a0 bt248.1 (-1) 0)))
theorem salchowlaw09_LexerTokens.mono_l : ∀ k, (∀ y0 y1 y2 y3, LeO (salchowlaw09_LexerTokens.l0 k y0 y1 y2 y3) (salchowlaw09_LexerTokens.l0 (k + 1) y0 y1 y2 y3))
  | 0 => fun _ _ _ _ r h => by simp [salchowlaw09_LexerTokens.l0] at h
  | k + 1 => by
    have ih0 := salchowlaw09_LexerTokens.mono_l k
    · intro y0 y1 y2 y3
      unfold salchowlaw09_LexerTokens.l0
      repeat' first
      | (with_reducible exact ih0 _ _ _ _)
      | (with_reducible exact lexer_Join.mono _ _)
      | (with_reducible exact lexer_Lex.mono _ _)
      | (with_reducible exact lexer_Valid.mono _ _ _ _ _)
      | (with_reducible exact salchowlaw09_awake.mono _)
      | (with_reducible exact salchowref09_Same.mono _ _ _ _)
      | (with_reducible exact LeO.refl _)
      | (with_reducible exact LeO.none _)
      | (with_reducible refine LeO.ite ?_ ?_)
      | (with_reducible refine LeO.bind ?_ (fun _ => ?_))
      | exact ih0 _ _ _ _
      | exact lexer_Join.mono _ _
      | exact lexer_Lex.mono _ _
      | exact lexer_Valid.mono _ _ _ _ _
      | exact salchowlaw09_awake.mono _
      | exact salchowref09_Same.mono _ _ _ _
      | exact LeO.none _
      | refine LeO.ite ?_ ?_
      | refine LeO.bind ?_ (fun _ => ?_)
theorem salchowlaw09_LexerTokens.mono : ∀ a0 k, LeO (salchowlaw09_LexerTokens.f k a0) (salchowlaw09_LexerTokens.f (k + 1) a0) := by
  intro a0 k
  have ih0 := salchowlaw09_LexerTokens.mono_l k
  unfold salchowlaw09_LexerTokens.f
  repeat' first
      | (with_reducible exact ih0 _ _ _ _)
      | (with_reducible exact lexer_Join.mono _ _)
      | (with_reducible exact lexer_Lex.mono _ _)
      | (with_reducible exact lexer_Valid.mono _ _ _ _ _)
      | (with_reducible exact salchowlaw09_awake.mono _)
      | (with_reducible exact salchowref09_Same.mono _ _ _ _)
      | (with_reducible exact LeO.refl _)
      | (with_reducible exact LeO.none _)
      | (with_reducible refine LeO.ite ?_ ?_)
      | (with_reducible refine LeO.bind ?_ (fun _ => ?_))
      | exact ih0 _ _ _ _
      | exact lexer_Join.mono _ _
      | exact lexer_Lex.mono _ _
      | exact lexer_Valid.mono _ _ _ _ _
      | exact salchowlaw09_awake.mono _
      | exact salchowref09_Same.mono _ _ _ _
      | exact LeO.none _
      | refine LeO.ite ?_ ?_
      | refine LeO.bind ?_ (fun _ => ?_)
set_option maxHeartbeats 8000000 in
set_option maxRecDepth 100000 in
theorem salchowlaw09_LexerTokens.calls (k : Nat) (a0 : ByteArray) (r : Bool) (w : World) (hG : Gl w) (h : salchowlaw09_LexerTokens.f k a0 = some r) :
    Calls Tryd.prog 14 #[.string a0] w fun e w' => e = .returned (.bool r) ∧ Below w.heap.size w w' := by
  have hu26 := Tryd.underlying26
  have hu46 := Tryd.underlying46
  have HB := Aside0.mk (Below.refl w.heap.size w)
  have H : (if (a0.size : Int) > 2000 then ((salchowlaw09_awake.f k).bind fun t247 => (some t247)) else ((lexer_Lex.f k a0).bind fun bt248 => (if (!(bt248.2.1 == 0) || (!(bt248.2.2 == 0))) = true then ((salchowlaw09_awake.f k).bind fun t254 => (if t254 = true then (if bt248.2.2 ≥ 0 then (if bt248.2.2 ≤ (a0.size : Int) then (if bt248.2.1 = 0 then (none) else (some ((bt248.1.length : Int) == 0))) else (none)) else (none)) else (none))) else (salchowlaw09_LexerTokens.l0 k a0 bt248.1 (-1) 0)))) = some r := h
  clear h
  by_cases c2 : (a0.size : Int) > 2000
  · rw [if_pos c2] at H
    have c2b0 : decide (2000 < (a0.size : Int)) = true := decide_eq_true c2
    have c2b1 : decide (2000 < a0.size) = true := decide_eq_true (by omega)
    clear c2
    replace H := Option.bind_eq_some_iff.mp H
    obtain ⟨t247, A30, H⟩ := H
    replace H : (some t247) = some r := H
    have A3 := Aside0.mk A30
    clear A30
    obtain rfl := Option.some.inj H
    go_enter Tryd.func14, Tryd.ntmps14
    go_wp2_with (first | ((with_reducible refine gate_callee (f := 32) rfl ?_); refine goesL_ (some 14) rfl rfl Tryd.func32 (by kernel_rfl) rfl #[] rfl (by (try simp only [List.map_toArray, List.map_cons, List.map_nil]); first | done | rfl | (simp only [List.length_drop, List.length_take]; rfl)) ?_; (with_reducible refine (salchowlaw09_awake.calls k  t247 _ ?side1 A3.out).mono ?_); (case side1 => exact Gl.below hG (bl_ HB.out)); rintro e w4 ⟨rfl, hb⟩; refine ⟨_, rfl, ?_⟩; have n0_ := Aside0.mk (below_step (bl_ HB.out) hb); clear HB; have HB := n0_; clear n0_; (try clear hb); (try clear hb2); (try clear hk); (try clear hi)))
    go_ret
    exact ⟨er_, bl_ HB.out⟩
  · rw [if_neg c2] at H
    have c2b0 : decide (2000 < (a0.size : Int)) = false := decide_eq_false c2
    have c2b1 : decide (2000 < a0.size) = false := decide_eq_false (by omega)
    clear c2
    replace H := Option.bind_eq_some_iff.mp H
    obtain ⟨⟨t248, t251, t252⟩, A50, H⟩ := H
    replace H : (if (!(t251 == 0) || (!(t252 == 0))) = true then ((salchowlaw09_awake.f k).bind fun t254 => (if t254 = true then (if t252 ≥ 0 then (if t252 ≤ (a0.size : Int) then (if t251 = 0 then (none) else (some ((t248.length : Int) == 0))) else (none)) else (none)) else (none))) else (salchowlaw09_LexerTokens.l0 k a0 t248 (-1) 0)) = some r := H
    have A5 := Aside0.mk A50
    clear A50
    by_cases c6 : (!(t251 == 0) || (!(t252 == 0))) = true
    · rw [if_pos c6] at H
      have c6b0 : (!(t251 == 0) || (!(t252 == 0))) = true := c6
      clear c6
      replace H := Option.bind_eq_some_iff.mp H
      obtain ⟨t254, A70, H⟩ := H
      replace H : (if t254 = true then (if t252 ≥ 0 then (if t252 ≤ (a0.size : Int) then (if t251 = 0 then (none) else (some ((t248.length : Int) == 0))) else (none)) else (none)) else (none)) = some r := H
      have A7 := Aside0.mk A70
      clear A70
      by_cases c8 : t254 = true
      · subst c8
        have H1 : (if t252 ≥ 0 then (if t252 ≤ (a0.size : Int) then (if t251 = 0 then (none) else (some ((t248.length : Int) == 0))) else (none)) else (none)) = some r := by rw [if_pos rfl] at H; exact H
        clear H
        have H := H1
        clear H1
        by_cases c9 : t252 ≥ 0
        · rw [if_pos c9] at H
          have c9b0 : decide (0 ≤ t252) = true := decide_eq_true c9
          clear c9
          by_cases c10 : t252 ≤ (a0.size : Int)
          · rw [if_pos c10] at H
            have c10b0 : decide (t252 ≤ (a0.size : Int)) = true := decide_eq_true c10
            clear c10
            by_cases c11 : t251 = 0
            · rw [if_pos c11] at H
              exact absurd H (by simp)
            · rw [if_neg c11] at H
              have c11b0 : (t251 == 0) = false := beq_eq_false_iff_ne.mpr c11
              have c11b1 : (t251 != 0) = true := bne_iff_ne.mpr c11
              obtain rfl := Option.some.inj H
              go_enter Tryd.func14, Tryd.ntmps14
              go_wp2_with (first | ((with_reducible refine gate_callee (f := 25) rfl ?_); refine goesL_ (some 17) rfl rfl Tryd.func25 (by kernel_rfl) rfl #[.string a0] rfl (by (try simp only [List.map_toArray, List.map_cons, List.map_nil]); first | done | rfl | (simp only [List.length_drop, List.length_take]; rfl)) ?_; (with_reducible refine (lexer_Lex.calls k a0 t248 t251 t252 _ A5.out).mono ?_); rintro e w12 ⟨v249, rfl, ho0, hb⟩; refine ⟨_, rfl, ?_⟩; have n0_ := Aside0.mk (Kd.R_lower ho0 (below_size (bl_ HB.out))); have n1_ := Aside0.mk (below_step (bl_ HB.out) hb); clear HB; have HO250 := n0_; have HB := n1_; clear n0_ n1_; (try clear hb); (try clear hb2); (try clear hk); (try clear hi); (try clear ho0)) | ((with_reducible refine gate_dst (N := 4) rfl ?_); (try (refine gate_guard (by rfl) ?_; dsimp only)); refine box_event ?hg (N := 4) ?hd (cs := #[.int .i64 0, .int .i64 0]) (t := 26) ?hr ?_; (case hd => rfl); (case hg => rfl); (case hr => first | (go_simp; done) | (go_simp; rfl)); intro gb253 hg w13 hbox hb; have n0_ := Aside0.mk (Kd.R_below (by (with_reducible repeat (first | apply Kd.R_alloc | apply Kd.R_drewN | apply Kd.R_drew)); exact HO250.out) hb); have n1_ := Aside0.mk (below_step (bl_ HB.out) hb); have n2_ := Aside0.mk (hbox); have n3_ := Aside0.mk ((by rw [hg]; exact (below_size (bl_ HB.out)) : w.heap.size ≤ gb253)); have n4_ := Aside0.mk ((by rw [hg]; exact (below_size (bl_ HB.out)) : w.heap.size ≤ gb253)); clear HO250; clear HB; have HO250 := n0_; have HB := n1_; have BK253 := n2_; have GW253 := n3_; have GE253 := n4_; clear n0_ n1_ n2_ n3_ n4_; clear hb hbox hg; have hcz14_0 : w13.cell? ⟨gb253, 0, none⟩ = some (.int .i64 0) := (blk_cell BK253.out 0).trans rfl; have hcz14_1 : w13.cell? ⟨gb253, 1, none⟩ = some (.int .i64 0) := (blk_cell BK253.out 1).trans rfl; have hfz14_0 := blk_frozen BK253.out 0; have hfz14_1 := blk_frozen BK253.out 1) | ((with_reducible refine gate_callee (f := 32) rfl ?_); refine goesL_ (some 23) rfl rfl Tryd.func32 (by kernel_rfl) rfl #[] rfl (by (try simp only [List.map_toArray, List.map_cons, List.map_nil]); first | done | rfl | (simp only [List.length_drop, List.length_take]; rfl)) ?_; (with_reducible refine (salchowlaw09_awake.calls k  true _ ?side1 A7.out).mono ?_); (case side1 => exact Gl.below hG (bl1_ HB.out GE253.out)); rintro e w15 ⟨rfl, hb⟩; refine ⟨_, rfl, ?_⟩; have n0_ := Aside0.mk (Kd.R_below (by (with_reducible repeat (first | apply Kd.R_alloc | apply Kd.R_drewN | apply Kd.R_drew)); exact (Kd.R_mono (Kd.R_far (p := ⟨gb253, 1, none⟩) (Kd.R_far (p := ⟨gb253, 0, none⟩) (Kd.R_types HO250.out BK253.out (by decide)) (fun _ hk => hk.2) (.int .i64 t251)) (fun _ hk => hk.2) (.int .i64 t252)) (fun _ h_ => h_.1))) hb); have n1_ := Aside0.mk (blk_below (g := gb253) (o := .cells #[.int .i64 t251, .int .i64 t252] 26 (0, 0)) (by (with_reducible repeat (first | refine blk_drewN ?_ _ | refine blk_drew ?_ | refine blk_alloc ?_ _)); refine blk_put (cs := #[.int .i64 t251, .int .i64 0]) ?_ 1 _ rfl; (with_reducible repeat (first | refine blk_drewN ?_ _ | refine blk_drew ?_ | refine blk_alloc ?_ _)); refine blk_put (cs := #[.int .i64 0, .int .i64 0]) ?_ 0 _ rfl; (with_reducible repeat (first | refine blk_drewN ?_ _ | refine blk_drew ?_ | refine blk_alloc ?_ _)); exact BK253.out) hb); have n2_ := Aside0.mk (below_step (bl1_ HB.out GE253.out) hb); clear HO250; clear BK253; clear HB; have HO250 := n0_; have BK253 := n1_; have HB := n2_; clear n0_ n1_ n2_; (try clear hb); (try clear hb2); (try clear hk); (try clear hi); have hcz16_0 : w15.cell? ⟨gb253, 0, none⟩ = some (.int .i64 t251) := (blk_cell BK253.out 0).trans rfl; have hcz16_1 : w15.cell? ⟨gb253, 1, none⟩ = some (.int .i64 t252) := (blk_cell BK253.out 1).trans rfl; have hfz16_0 := blk_frozen BK253.out 0; have hfz16_1 := blk_frozen BK253.out 1; obtain ⟨Ao17, co17, eo17⟩ := Kd.R_slice HO250.out; subst eo17))
              go_ret
              exact ⟨er_, bl1_ HB.out GE253.out⟩
          · rw [if_neg c10] at H
            exact absurd H (by simp)
        · rw [if_neg c9] at H
          exact absurd H (by simp)
      · replace c8 := Bool.eq_false_iff.mpr c8
        subst c8
        have H1 : (none) = some r := by rw [if_neg (show ¬ (false = true) by decide)] at H; exact H
        clear H
        have H := H1
        clear H1
        exact absurd H (by simp)
    · rw [if_neg c6] at H
      have c6b0 : (!(t251 == 0) || (!(t252 == 0))) = false := by simpa using c6
      clear c6
      have H' := Aside0.mk H
      clear H
      go_enter Tryd.func14, Tryd.ntmps14
      go_wp2_with (first | ((with_reducible refine gate_callee (f := 25) rfl ?_); refine goesL_ (some 17) rfl rfl Tryd.func25 (by kernel_rfl) rfl #[.string a0] rfl (by (try simp only [List.map_toArray, List.map_cons, List.map_nil]); first | done | rfl | (simp only [List.length_drop, List.length_take]; rfl)) ?_; (with_reducible refine (lexer_Lex.calls k a0 t248 t251 t252 _ A5.out).mono ?_); rintro e w18 ⟨v249, rfl, ho0, hb⟩; refine ⟨_, rfl, ?_⟩; have n0_ := Aside0.mk (Kd.R_lower ho0 (below_size (bl_ HB.out))); have n1_ := Aside0.mk (below_step (bl_ HB.out) hb); clear HB; have HO250 := n0_; have HB := n1_; clear n0_ n1_; (try clear hb); (try clear hb2); (try clear hk); (try clear hi); (try clear ho0)) | ((with_reducible refine gate_dst (N := 4) rfl ?_); (try (refine gate_guard (by rfl) ?_; dsimp only)); refine box_event ?hg (N := 4) ?hd (cs := #[.int .i64 0, .int .i64 0]) (t := 26) ?hr ?_; (case hd => rfl); (case hg => rfl); (case hr => first | (go_simp; done) | (go_simp; rfl)); intro gb253 hg w19 hbox hb; have n0_ := Aside0.mk (Kd.R_below (by (with_reducible repeat (first | apply Kd.R_alloc | apply Kd.R_drewN | apply Kd.R_drew)); exact HO250.out) hb); have n1_ := Aside0.mk (below_step (bl_ HB.out) hb); have n2_ := Aside0.mk (hbox); have n3_ := Aside0.mk ((by rw [hg]; exact (below_size (bl_ HB.out)) : w.heap.size ≤ gb253)); have n4_ := Aside0.mk ((by rw [hg]; exact (below_size (bl_ HB.out)) : w.heap.size ≤ gb253)); clear HO250; clear HB; have HO250 := n0_; have HB := n1_; have BK253 := n2_; have GW253 := n3_; have GE253 := n4_; clear n0_ n1_ n2_ n3_ n4_; clear hb hbox hg; have hcz20_0 : w19.cell? ⟨gb253, 0, none⟩ = some (.int .i64 0) := (blk_cell BK253.out 0).trans rfl; have hcz20_1 : w19.cell? ⟨gb253, 1, none⟩ = some (.int .i64 0) := (blk_cell BK253.out 1).trans rfl; have hfz20_0 := blk_frozen BK253.out 0; have hfz20_1 := blk_frozen BK253.out 1))
      go_loopg [5, 6] k (fun kq v5 v6 w' => ∃ (x5_1 : Int) (x6_1 : Int), v5 = .int .i64 x5_1 ∧ v6 = .int .i64 x6_1 ∧ Aside0 (salchowlaw09_LexerTokens.l0 kq a0 t248 x5_1 x6_1 = some r) ∧ Aside0 (kq ≤ k) ∧ Aside0 (Kd.R k46 46 w' w.heap.size (fun _ => True) v249 t248) ∧ Aside0 (w'.heap[gb253]? = some (.cells #[.int .i64 t251, .int .i64 t252] 26 (0, 0))) ∧ Aside0 (Below w.heap.size w w'))
      case atStart => exact ⟨((-1)), (0), (by first | rfl | (simp; done) | (simp [*]; done) | (simp <;> rfl)), (by first | rfl | (simp; done) | (simp [*]; done) | (simp <;> rfl)), H', ⟨Nat.le_refl _⟩, ⟨by (with_reducible repeat (first | apply Kd.R_alloc | apply Kd.R_drewN | apply Kd.R_drew)); exact Kd.R_mono (Kd.R_far (p := ⟨gb253, 1, none⟩) (Kd.R_far (p := ⟨gb253, 0, none⟩) (Kd.R_types HO250.out BK253.out (by decide)) (fun _ hk => hk.2) (.int .i64 t251)) (fun _ hk => hk.2) (.int .i64 t252)) (fun _ hk => trivial)⟩, ⟨by (with_reducible repeat (first | refine blk_drewN ?_ _ | refine blk_drew ?_ | refine blk_alloc ?_ _)); refine blk_put (cs := #[.int .i64 t251, .int .i64 0]) ?_ 1 _ rfl; (with_reducible repeat (first | refine blk_drewN ?_ _ | refine blk_drew ?_ | refine blk_alloc ?_ _)); refine blk_put (cs := #[.int .i64 0, .int .i64 0]) ?_ 0 _ rfl; (with_reducible repeat (first | refine blk_drewN ?_ _ | refine blk_drew ?_ | refine blk_alloc ?_ _)); exact BK253.out⟩, ⟨bl1_ HB.out GE253.out⟩⟩
      case round =>
        clear H'
        try clear c1
        try clear c2
        try clear c2b0
        try clear c2b1
        try clear p2
        try clear c3
        try clear c6
        try clear c6b0
        try clear c8
        try clear c9
        try clear c9b0
        try clear c10
        try clear c10b0
        try clear c11
        try clear c11b0
        try clear c11b1
        try clear c14
        try clear hcz14_0
        try clear hcz14_1
        try clear hcz16_0
        try clear hcz16_1
        try clear hcz20_0
        try clear hcz20_1
        try clear hfz14_0
        try clear hfz14_1
        try clear hfz16_0
        try clear hfz16_1
        try clear hfz20_0
        try clear hfz20_1
        obtain ⟨x5_1, x6_1, rfl, rfl, HA, HK1, HO_3, BK253, HB⟩ := hrel
        cases gk with
        | zero => exact absurd HA.out (by simp [salchowlaw09_LexerTokens.l0])
        | succ k1 =>
          have H := HA.out
          clear HA
          simp only [salchowlaw09_LexerTokens.l0] at H
          by_cases c21 : x6_1 < (t248.length : Int)
          · rw [if_pos c21] at H
            have c21b0 : decide (x6_1 < (t248.length : Int)) = true := decide_eq_true c21
            clear c21
            by_cases c22 : 0 ≤ x6_1
            · rw [if_pos c22] at H
              have c22b0 : decide (0 ≤ x6_1) = true := decide_eq_true c22
              clear c22
              replace H := Option.bind_eq_some_iff.mp H
              obtain ⟨t256, A230, H⟩ := H
              replace H : (if t256 = true then (if ((rd_T46 t248 x6_1).f3) ≤ x5_1 then (none) else (if ((rd_T46 t248 x6_1).f3) > (a0.size : Int) then (none) else (salchowlaw09_LexerTokens.l0 k1 a0 t248 ((rd_T46 t248 x6_1).f3) (wrap64 (x6_1 + 1))))) else (none)) = some r := H
              have A23 := Aside0.mk A230
              clear A230
              by_cases c24 : t256 = true
              · subst c24
                have H1 : (if ((rd_T46 t248 x6_1).f3) ≤ x5_1 then (none) else (if ((rd_T46 t248 x6_1).f3) > (a0.size : Int) then (none) else (salchowlaw09_LexerTokens.l0 k1 a0 t248 ((rd_T46 t248 x6_1).f3) (wrap64 (x6_1 + 1))))) = some r := by rw [if_pos rfl] at H; exact H
                clear H
                have H := H1
                clear H1
                by_cases c25 : ((rd_T46 t248 x6_1).f3) ≤ x5_1
                · rw [if_pos c25] at H
                  exact absurd H (by simp)
                · rw [if_neg c25] at H
                  have c25b0 : decide (((rd_T46 t248 x6_1).f3) ≤ x5_1) = false := decide_eq_false c25
                  clear c25
                  by_cases c26 : ((rd_T46 t248 x6_1).f3) > (a0.size : Int)
                  · rw [if_pos c26] at H
                    exact absurd H (by simp)
                  · rw [if_neg c26] at H
                    have c26b0 : decide ((a0.size : Int) < ((rd_T46 t248 x6_1).f3)) = false := decide_eq_false c26
                    clear c26
                    have H' := Aside0.mk H
                    clear H
                    obtain ⟨Ao27, co27, eo27⟩ := Kd.R_slice HO_3.out
                    subst eo27
                    have p255 : 0 ≤ (x6_1 : Int) := of_decide_eq_true (by first | (with_reducible assumption) | assumption)
                    have q255 : x6_1 < (t248.length : Int) := of_decide_eq_true (by first | (with_reducible assumption) | assumption)
                    obtain ⟨ad255, e255, hx255_0, hx255_1, hx255_2, hx255_3⟩ := at_T46 (Kd.R_reads' HO_3.out).2.2 x6_1 p255 q255
                    cases e255
                    replace p255 := eq_true p255
                    replace q255 := eq_true q255
                    go_wp2_with (first | ((with_reducible refine gate_callee (f := 36) rfl ?_); refine goesL_ (some 56) rfl rfl Tryd.func36 (by kernel_rfl) rfl #[.agg #[.int .i64 ((rd_T46 t248 x6_1).f0), .string ((rd_T46 t248 x6_1).f1), .int .i64 ((rd_T46 t248 x6_1).f2), .int .i64 ((rd_T46 t248 x6_1).f3)]] rfl (by (try simp only [List.map_toArray, List.map_cons, List.map_nil]); first | done | rfl | (simp only [List.length_drop, List.length_take]; rfl)) ?_; (with_reducible refine (lexer_Valid.calls k1 ((rd_T46 t248 x6_1).f0) ((rd_T46 t248 x6_1).f1) ((rd_T46 t248 x6_1).f2) ((rd_T46 t248 x6_1).f3) true _ A23.out).mono ?_); rintro e w28 ⟨rfl, hb⟩; refine ⟨_, rfl, ?_⟩; have n0_ := Aside0.mk (Kd.R_below (by (with_reducible repeat (first | apply Kd.R_alloc | apply Kd.R_drewN | apply Kd.R_drew)); exact HO_3.out) hb); have n1_ := Aside0.mk (blk_below (g := gb253) (o := .cells #[.int .i64 t251, .int .i64 t252] 26 (0, 0)) (bk_ BK253.out) hb); have n2_ := Aside0.mk (below_step (bl1_ HB.out GE253.out) hb); clear HO_3; clear BK253; clear HB; have HO_3 := n0_; have BK253 := n1_; have HB := n2_; clear n0_ n1_ n2_; (try clear hb); (try clear hb2); (try clear hk); (try clear hi); have p257 : 0 ≤ (x6_1 : Int) := of_decide_eq_true (by first | (with_reducible assumption) | assumption); have q257 : x6_1 < (t248.length : Int) := of_decide_eq_true (by first | (with_reducible assumption) | assumption); obtain ⟨ad257, e257, hx257_0, hx257_1, hx257_2, hx257_3⟩ := at_T46 (Kd.R_reads' HO_3.out).2.2 x6_1 p257 q257; obtain rfl : ad255 = ad257 := (by injection e257); replace p257 := eq_true p257; replace q257 := eq_true q257; have p258 : 0 ≤ (x6_1 : Int) := of_decide_eq_true (by first | (with_reducible assumption) | assumption); have q258 : x6_1 < (t248.length : Int) := of_decide_eq_true (by first | (with_reducible assumption) | assumption); obtain ⟨ad258, e258, hx258_0, hx258_1, hx258_2, hx258_3⟩ := at_T46 (Kd.R_reads' HO_3.out).2.2 x6_1 p258 q258; obtain rfl : ad255 = ad258 := (by injection e258); replace p258 := eq_true p258; replace q258 := eq_true q258; have p259 : 0 ≤ (x6_1 : Int) := of_decide_eq_true (by first | (with_reducible assumption) | assumption); have q259 : x6_1 < (t248.length : Int) := of_decide_eq_true (by first | (with_reducible assumption) | assumption); obtain ⟨ad259, e259, hx259_0, hx259_1, hx259_2, hx259_3⟩ := at_T46 (Kd.R_reads' HO_3.out).2.2 x6_1 p259 q259; obtain rfl : ad255 = ad259 := (by injection e259); replace p259 := eq_true p259; replace q259 := eq_true q259))
                    go_roundg k1
                    case measure => have := HK1.out; omega
                    case rel => exact ⟨((rd_T46 t248 x6_1).f3), (wrap64 (x6_1 + 1)), (by first | rfl | (simp; done) | (simp [*]; done) | (simp <;> rfl)), (by first | rfl | (simp; done) | (simp [*]; done) | (simp <;> rfl)), H', ⟨by have := HK1.out; omega⟩, ⟨by (with_reducible repeat (first | apply Kd.R_alloc | apply Kd.R_drewN | apply Kd.R_drew)); exact HO_3.out⟩, ⟨by (with_reducible repeat (first | refine blk_drewN ?_ _ | refine blk_drew ?_ | refine blk_alloc ?_ _)); exact BK253.out⟩, ⟨bl1_ HB.out GE253.out⟩⟩
              · replace c24 := Bool.eq_false_iff.mpr c24
                subst c24
                have H1 : (none) = some r := by rw [if_neg (show ¬ (false = true) by decide)] at H; exact H
                clear H
                have H := H1
                clear H1
                exact absurd H (by simp)
            · rw [if_neg c22] at H
              exact absurd H (by simp)
          · rw [if_neg c21] at H
            have c21b0 : decide (x6_1 < (t248.length : Int)) = false := decide_eq_false c21
            clear c21
            replace H := Option.bind_eq_some_iff.mp H
            obtain ⟨⟨t260, t261⟩, A290, H⟩ := H
            replace H : (if t261 = 6 then ((salchowlaw09_awake.f k1).bind fun t262 => (if t262 = true then (some (decide ((a0.size : Int) > 30000))) else (none))) else ((lexer_Lex.f k1 t260).bind fun bt263 => ((salchowlaw09_awake.f k1).bind fun t269 => (if t269 = true then (if t261 = 0 then (if (bt263.2.1 == 0 && (bt263.2.2 == 0)) = true then ((salchowref09_Same.f k1 t248 bt263.1 false).bind fun t270 => (some t270)) else (none)) else (none)) else (none))))) = some r := H
            have A29 := Aside0.mk A290
            clear A290
            by_cases c30 : t261 = 6
            · rw [if_pos c30] at H
              have c30b0 : (t261 == 6) = true := beq_iff_eq.mpr c30
              have c30b1 : (t261 != 6) = false := bne_eq_false_iff_eq.mpr c30
              clear c30
              replace H := Option.bind_eq_some_iff.mp H
              obtain ⟨t262, A310, H⟩ := H
              replace H : (if t262 = true then (some (decide ((a0.size : Int) > 30000))) else (none)) = some r := H
              have A31 := Aside0.mk A310
              clear A310
              by_cases c32 : t262 = true
              · subst c32
                have H1 : (some (decide ((a0.size : Int) > 30000))) = some r := by rw [if_pos rfl] at H; exact H
                clear H
                have H := H1
                clear H1
                obtain rfl := Option.some.inj H
                obtain ⟨Ao33, co33, eo33⟩ := Kd.R_slice HO_3.out
                subst eo33
                go_wp2_with (first | ((with_reducible refine gate_callee (f := 43) rfl ?_); refine goesL_ (some 84) rfl rfl Tryd.func43 (by kernel_rfl) rfl #[.slice Ao33 t248.length co33] rfl (by (try simp only [List.map_toArray, List.map_cons, List.map_nil]); first | done | rfl | (simp only [List.length_drop, List.length_take]; rfl)) ?_; (with_reducible refine (lexer_Join.calls k1 _ _ t248 t260 t261 _ ?side1 ?side2 ?side3 A29.out).mono ?_); (case side1 => exact Gl.below hG (bl1_ HB.out GE253.out)); (case side2 => repeat (first | exact (Kd.R_reads' HO_3.out).2.2 | (with_reducible refine Kd.C_alloc ?_ _) | (with_reducible refine Kd.C_drewN ?_ _) | (with_reducible refine Kd.C_drew ?_))); (case side3 => exact (Kd.R_reads' HO_3.out).2.1); rintro e w34 ⟨rfl, hb⟩; refine ⟨_, rfl, ?_⟩; have n0_ := Aside0.mk (Kd.R_below (by (with_reducible repeat (first | apply Kd.R_alloc | apply Kd.R_drewN | apply Kd.R_drew)); exact HO_3.out) hb); have n1_ := Aside0.mk (blk_below (g := gb253) (o := .cells #[.int .i64 t251, .int .i64 t252] 26 (0, 0)) (bk_ BK253.out) hb); have n2_ := Aside0.mk (below_step (bl1_ HB.out GE253.out) hb); clear HO_3; clear BK253; clear HB; have HO_3 := n0_; have BK253 := n1_; have HB := n2_; clear n0_ n1_ n2_; (try clear hb); (try clear hb2); (try clear hk); (try clear hi)) | ((with_reducible refine gate_callee (f := 32) rfl ?_); refine goesL_ (some 89) rfl rfl Tryd.func32 (by kernel_rfl) rfl #[] rfl (by (try simp only [List.map_toArray, List.map_cons, List.map_nil]); first | done | rfl | (simp only [List.length_drop, List.length_take]; rfl)) ?_; (with_reducible refine (salchowlaw09_awake.calls k1  true _ ?side1 A31.out).mono ?_); (case side1 => exact Gl.below hG (bl1_ HB.out GE253.out)); rintro e w35 ⟨rfl, hb⟩; refine ⟨_, rfl, ?_⟩; have n0_ := Aside0.mk (Kd.R_below (by (with_reducible repeat (first | apply Kd.R_alloc | apply Kd.R_drewN | apply Kd.R_drew)); exact HO_3.out) hb); have n1_ := Aside0.mk (blk_below (g := gb253) (o := .cells #[.int .i64 t251, .int .i64 t252] 26 (0, 0)) (bk_ BK253.out) hb); have n2_ := Aside0.mk (below_step (bl1_ HB.out GE253.out) hb); clear HO_3; clear BK253; clear HB; have HO_3 := n0_; have BK253 := n1_; have HB := n2_; clear n0_ n1_ n2_; (try clear hb); (try clear hb2); (try clear hk); (try clear hi)))
                go_ret
                exact ⟨er_, bl1_ HB.out GE253.out⟩
              · replace c32 := Bool.eq_false_iff.mpr c32
                subst c32
                have H1 : (none) = some r := by rw [if_neg (show ¬ (false = true) by decide)] at H; exact H
                clear H
                have H := H1
                clear H1
                exact absurd H (by simp)
            · rw [if_neg c30] at H
              have c30b0 : (t261 == 6) = false := beq_eq_false_iff_ne.mpr c30
              have c30b1 : (t261 != 6) = true := bne_iff_ne.mpr c30
              replace H := Option.bind_eq_some_iff.mp H
              obtain ⟨⟨t263, t266, t267⟩, A360, H⟩ := H
              replace H : ((salchowlaw09_awake.f k1).bind fun t269 => (if t269 = true then (if t261 = 0 then (if (t266 == 0 && (t267 == 0)) = true then ((salchowref09_Same.f k1 t248 t263 false).bind fun t270 => (some t270)) else (none)) else (none)) else (none))) = some r := H
              have A36 := Aside0.mk A360
              clear A360
              replace H := Option.bind_eq_some_iff.mp H
              obtain ⟨t269, A370, H⟩ := H
              replace H : (if t269 = true then (if t261 = 0 then (if (t266 == 0 && (t267 == 0)) = true then ((salchowref09_Same.f k1 t248 t263 false).bind fun t270 => (some t270)) else (none)) else (none)) else (none)) = some r := H
              have A37 := Aside0.mk A370
              clear A370
              by_cases c38 : t269 = true
              · subst c38
                have H1 : (if t261 = 0 then (if (t266 == 0 && (t267 == 0)) = true then ((salchowref09_Same.f k1 t248 t263 false).bind fun t270 => (some t270)) else (none)) else (none)) = some r := by rw [if_pos rfl] at H; exact H
                clear H
                have H := H1
                clear H1
                by_cases c39 : t261 = 0
                · rw [if_pos c39] at H
                  have c39b0 : (t261 == 0) = true := beq_iff_eq.mpr c39
                  have c39b1 : (t261 != 0) = false := bne_eq_false_iff_eq.mpr c39
                  clear c39
                  by_cases c40 : (t266 == 0 && (t267 == 0)) = true
                  · rw [if_pos c40] at H
                    have c40b0 : (t266 == 0 && (t267 == 0)) = true := c40
                    (try (have c40b1 : decide (t266 = 0 && (t267 == 0)) = true := by simpa using c40))
                    (try (have c40b2 : (t266 == 0 && (t267 == 0)) = true := by simpa using c40))
                    clear c40
                    replace H := Option.bind_eq_some_iff.mp H
                    obtain ⟨t270, A410, H⟩ := H
                    replace H : (some t270) = some r := H
                    have A41 := Aside0.mk A410
                    clear A410
                    obtain rfl := Option.some.inj H
                    obtain ⟨Ao42, co42, eo42⟩ := Kd.R_slice HO_3.out
                    subst eo42
                    go_wp2_with (first | ((with_reducible refine gate_callee (f := 43) rfl ?_); refine goesL_ (some 84) rfl rfl Tryd.func43 (by kernel_rfl) rfl #[.slice Ao42 t248.length co42] rfl (by (try simp only [List.map_toArray, List.map_cons, List.map_nil]); first | done | rfl | (simp only [List.length_drop, List.length_take]; rfl)) ?_; (with_reducible refine (lexer_Join.calls k1 _ _ t248 t260 t261 _ ?side1 ?side2 ?side3 A29.out).mono ?_); (case side1 => exact Gl.below hG (bl1_ HB.out GE253.out)); (case side2 => repeat (first | exact (Kd.R_reads' HO_3.out).2.2 | (with_reducible refine Kd.C_alloc ?_ _) | (with_reducible refine Kd.C_drewN ?_ _) | (with_reducible refine Kd.C_drew ?_))); (case side3 => exact (Kd.R_reads' HO_3.out).2.1); rintro e w43 ⟨rfl, hb⟩; refine ⟨_, rfl, ?_⟩; have n0_ := Aside0.mk (Kd.R_below (by (with_reducible repeat (first | apply Kd.R_alloc | apply Kd.R_drewN | apply Kd.R_drew)); exact HO_3.out) hb); have n1_ := Aside0.mk (blk_below (g := gb253) (o := .cells #[.int .i64 t251, .int .i64 t252] 26 (0, 0)) (bk_ BK253.out) hb); have n2_ := Aside0.mk (below_step (bl1_ HB.out GE253.out) hb); clear HO_3; clear BK253; clear HB; have HO_3 := n0_; have BK253 := n1_; have HB := n2_; clear n0_ n1_ n2_; (try clear hb); (try clear hb2); (try clear hk); (try clear hi)) | ((with_reducible refine gate_callee (f := 25) rfl ?_); refine goesL_ (some 97) rfl rfl Tryd.func25 (by kernel_rfl) rfl #[.string t260] rfl (by (try simp only [List.map_toArray, List.map_cons, List.map_nil]); first | done | rfl | (simp only [List.length_drop, List.length_take]; rfl)) ?_; (with_reducible refine (lexer_Lex.calls k1 t260 t263 t266 t267 _ A36.out).mono ?_); rintro e w44 ⟨v264, rfl, ho0, hb⟩; refine ⟨_, rfl, ?_⟩; have n0_ := Aside0.mk (Kd.R_elder' (by (with_reducible repeat (first | apply Kd.R_alloc | apply Kd.R_drewN | apply Kd.R_drew)); exact HO_3.out) (Kd.R_base ho0) hb); have n1_ := Aside0.mk (Kd.R_lower (Kd.R_new' ho0 (Kd.R_lt (by (with_reducible repeat (first | apply Kd.R_alloc | apply Kd.R_drewN | apply Kd.R_drew)); exact HO_3.out))) (below_size (bl1_ HB.out GE253.out))); have n2_ := Aside0.mk (blk_below (g := gb253) (o := .cells #[.int .i64 t251, .int .i64 t252] 26 (0, 0)) (bk_ BK253.out) hb); have n3_ := Aside0.mk (below_step (bl1_ HB.out GE253.out) hb); clear HO_3; clear BK253; clear HB; have HO_3 := n0_; have HO265 := n1_; have BK253 := n2_; have HB := n3_; clear n0_ n1_ n2_ n3_; (try clear hb); (try clear hb2); (try clear hk); (try clear hi); (try clear ho0)) | ((with_reducible refine gate_dst (N := 10) rfl ?_); (try (refine gate_guard (by rfl) ?_; dsimp only)); refine box_event ?hg (N := 10) ?hd (cs := #[.int .i64 0, .int .i64 0]) (t := 26) ?hr ?_; (case hd => rfl); (case hg => rfl); (case hr => first | (go_simp; done) | (go_simp; rfl)); intro gb268 hg w45 hbox hb; have n0_ := Aside0.mk (Kd.R_below (by (with_reducible repeat (first | apply Kd.R_alloc | apply Kd.R_drewN | apply Kd.R_drew)); exact HO_3.out) hb); have n1_ := Aside0.mk (Kd.R_below (by (with_reducible repeat (first | apply Kd.R_alloc | apply Kd.R_drewN | apply Kd.R_drew)); exact HO265.out) hb); have n2_ := Aside0.mk (blk_below (g := gb253) (o := .cells #[.int .i64 t251, .int .i64 t252] 26 (0, 0)) (bk_ BK253.out) hb); have n3_ := Aside0.mk (below_step (bl1_ HB.out GE253.out) hb); have n4_ := Aside0.mk (hbox); have n5_ := Aside0.mk ((by rw [hg]; exact (below_size (bl1_ HB.out GE253.out)) : w.heap.size ≤ gb268)); have n6_ := Aside0.mk ((by rw [hg]; exact (below_size (bl1_ HB.out GE253.out)) : w.heap.size ≤ gb268)); have n7_ := Aside0.mk ((by rw [hg]; exact Nat.ne_of_lt (blk_lt (g := gb253) (o := .cells #[.int .i64 t251, .int .i64 t252] 26 (0, 0)) (bk_ BK253.out)) : gb253 ≠ gb268)); have n8_ := Aside0.mk ((by rw [hg]; exact Nat.ne_of_gt (blk_lt (g := gb253) (o := .cells #[.int .i64 t251, .int .i64 t252] 26 (0, 0)) (bk_ BK253.out)) : gb268 ≠ gb253)); clear HO_3; clear HO265; clear BK253; clear HB; have HO_3 := n0_; have HO265 := n1_; have BK253 := n2_; have HB := n3_; have BK268 := n4_; have GW268 := n5_; have GE268 := n6_; have NB253_268 := n7_; have NB268_253 := n8_; clear n0_ n1_ n2_ n3_ n4_ n5_ n6_ n7_ n8_; clear hb hbox hg; have hnb46 := NB268_253.out; have hnc46 := NB253_268.out; have hcz47_0 : w45.cell? ⟨gb268, 0, none⟩ = some (.int .i64 0) := (blk_cell BK268.out 0).trans rfl; have hcz47_1 : w45.cell? ⟨gb268, 1, none⟩ = some (.int .i64 0) := (blk_cell BK268.out 1).trans rfl; have hfz47_0 := blk_frozen BK268.out 0; have hfz47_1 := blk_frozen BK268.out 1) | ((with_reducible refine gate_callee (f := 32) rfl ?_); refine goesL_ (some 100) rfl rfl Tryd.func32 (by kernel_rfl) rfl #[] rfl (by (try simp only [List.map_toArray, List.map_cons, List.map_nil]); first | done | rfl | (simp only [List.length_drop, List.length_take]; rfl)) ?_; (with_reducible refine (salchowlaw09_awake.calls k1  true _ ?side1 A37.out).mono ?_); (case side1 => exact Gl.below hG (bl2_ HB.out GE253.out GE268.out)); rintro e w48 ⟨rfl, hb⟩; refine ⟨_, rfl, ?_⟩; have n0_ := Aside0.mk (Kd.R_below (by (with_reducible repeat (first | apply Kd.R_alloc | apply Kd.R_drewN | apply Kd.R_drew)); exact (Kd.R_mono (Kd.R_far (p := ⟨gb268, 1, none⟩) (Kd.R_far (p := ⟨gb268, 0, none⟩) (Kd.R_types HO_3.out BK268.out (by decide)) (fun _ hk => hk.2) (.int .i64 t266)) (fun _ hk => hk.2) (.int .i64 t267)) (fun _ h_ => h_.1))) hb); have n1_ := Aside0.mk (Kd.R_below (by (with_reducible repeat (first | apply Kd.R_alloc | apply Kd.R_drewN | apply Kd.R_drew)); exact (Kd.R_mono (Kd.R_far (p := ⟨gb268, 1, none⟩) (Kd.R_far (p := ⟨gb268, 0, none⟩) (Kd.R_types HO265.out BK268.out (by decide)) (fun _ hk => hk.2) (.int .i64 t266)) (fun _ hk => hk.2) (.int .i64 t267)) (fun _ h_ => h_.1))) hb); have n2_ := Aside0.mk (blk_below (g := gb253) (o := .cells #[.int .i64 t251, .int .i64 t252] 26 (0, 0)) (by (with_reducible repeat (first | refine blk_drewN ?_ _ | refine blk_drew ?_ | refine blk_alloc ?_ _)); refine blk_far ?_ NB253_268.out _; (with_reducible repeat (first | refine blk_drewN ?_ _ | refine blk_drew ?_ | refine blk_alloc ?_ _)); refine blk_far ?_ NB253_268.out _; (with_reducible repeat (first | refine blk_drewN ?_ _ | refine blk_drew ?_ | refine blk_alloc ?_ _)); exact BK253.out) hb); have n3_ := Aside0.mk (blk_below (g := gb268) (o := .cells #[.int .i64 t266, .int .i64 t267] 26 (0, 0)) (by (with_reducible repeat (first | refine blk_drewN ?_ _ | refine blk_drew ?_ | refine blk_alloc ?_ _)); refine blk_put (cs := #[.int .i64 t266, .int .i64 0]) ?_ 1 _ rfl; (with_reducible repeat (first | refine blk_drewN ?_ _ | refine blk_drew ?_ | refine blk_alloc ?_ _)); refine blk_put (cs := #[.int .i64 0, .int .i64 0]) ?_ 0 _ rfl; (with_reducible repeat (first | refine blk_drewN ?_ _ | refine blk_drew ?_ | refine blk_alloc ?_ _)); exact BK268.out) hb); have n4_ := Aside0.mk (below_step (bl2_ HB.out GE253.out GE268.out) hb); clear HO_3; clear HO265; clear BK253; clear BK268; clear HB; have HO_3 := n0_; have HO265 := n1_; have BK253 := n2_; have BK268 := n3_; have HB := n4_; clear n0_ n1_ n2_ n3_ n4_; (try clear hb); (try clear hb2); (try clear hk); (try clear hi); have hcz49_0 : w48.cell? ⟨gb268, 0, none⟩ = some (.int .i64 t266) := (blk_cell BK268.out 0).trans rfl; have hcz49_1 : w48.cell? ⟨gb268, 1, none⟩ = some (.int .i64 t267) := (blk_cell BK268.out 1).trans rfl; have hfz49_0 := blk_frozen BK268.out 0; have hfz49_1 := blk_frozen BK268.out 1; obtain ⟨Ao50, co50, eo50⟩ := Kd.R_slice HO265.out; subst eo50) | (go_at_call 34; (with_reducible refine (salchowref09_Same.calls k1 _ _ t248 _ _ t263 false t270 _ ?side1 ?side2 ?side3 ?side4 A41.out).mono ?_); (case side1 => repeat (first | exact (Kd.R_reads' HO_3.out).2.2 | (with_reducible refine Kd.C_alloc ?_ _) | (with_reducible refine Kd.C_drewN ?_ _) | (with_reducible refine Kd.C_drew ?_))); (case side2 => exact (Kd.R_reads' HO_3.out).2.1); (case side3 => repeat (first | exact (Kd.R_reads' HO265.out).2.2 | (with_reducible refine Kd.C_alloc ?_ _) | (with_reducible refine Kd.C_drewN ?_ _) | (with_reducible refine Kd.C_drew ?_))); (case side4 => exact (Kd.R_reads' HO265.out).2.1); rintro e w51 ⟨rfl, hb⟩; have n0_ := Aside0.mk (Kd.R_below (by (with_reducible repeat (first | apply Kd.R_alloc | apply Kd.R_drewN | apply Kd.R_drew)); exact HO_3.out) hb); have n1_ := Aside0.mk (Kd.R_below (by (with_reducible repeat (first | apply Kd.R_alloc | apply Kd.R_drewN | apply Kd.R_drew)); exact HO265.out) hb); have n2_ := Aside0.mk (blk_below (g := gb253) (o := .cells #[.int .i64 t251, .int .i64 t252] 26 (0, 0)) (bk_ BK253.out) hb); have n3_ := Aside0.mk (blk_below (g := gb268) (o := .cells #[.int .i64 t266, .int .i64 t267] 26 (0, 0)) (bk_ BK268.out) hb); have n4_ := Aside0.mk (below_step (bl2_ HB.out GE253.out GE268.out) hb); clear HO_3; clear HO265; clear BK253; clear BK268; clear HB; have HO_3 := n0_; have HO265 := n1_; have BK253 := n2_; have BK268 := n3_; have HB := n4_; clear n0_ n1_ n2_ n3_ n4_; (try clear hb); (try clear hb2); (try clear hk); (try clear hi)))
                    go_ret
                    exact ⟨er_, bl2_ HB.out GE253.out GE268.out⟩
                  · rw [if_neg c40] at H
                    exact absurd H (by simp)
                · rw [if_neg c39] at H
                  exact absurd H (by simp)
              · replace c38 := Bool.eq_false_iff.mpr c38
                subst c38
                have H1 : (none) = some r := by rw [if_neg (show ¬ (false = true) by decide)] at H; exact H
                clear H
                have H := H1
                clear H1
                exact absurd H (by simp)
/-- THE ONE PURE STATEMENT of salchowlaw09_LexerTokens: yours. -/
def salchowlaw09_LexerTokens.Pure : Prop := ∀ (a0 : ByteArray), a0.size ≤ 140737488351232 → ∃ k, salchowlaw09_LexerTokens.f k a0 = some true
theorem salchowlaw09_LexerTokens.walk (P : salchowlaw09_LexerTokens.Pure) (a0 : ByteArray) (w : World) (hG : Gl w) (w0 : a0.size ≤ 140737488351232) :
    Calls Tryd.prog 14 #[.string a0] w fun e w' => e = .returned (.bool true) ∧ Below w.heap.size w w' := by
  obtain ⟨k, h⟩ := P a0 w0
  refine (salchowlaw09_LexerTokens.calls k a0 true w hG h).mono ?_
  rintro e w' ⟨rfl, hd⟩
  exact ⟨rfl, hd⟩
end Go.Proofs.YtkifdadhojbohaaDoor.Pr
namespace Go.Proofs.YtkifdadhojbohaaDoor.Pu
open Go.RowKit Go.Proofs.YtkifdadhojbohaaDoor Go.Proofs.YtkifdadhojbohaaDoor.Pr Go.Proofs.YtkifdadhojbohaaDoorW.PrintWords Go.Proofs.YtkifdadhojbohaaDoorW.PrintLast
/-- The token at the end. -/
abbrev endT : Tok := ⟨5, [], 0, 0⟩
theorem all_tw {α : Type} (p : α → Bool) (l : List α) : (l.takeWhile p).all p = true := List.all_takeWhile
/-- What is read as a token is a valid one, and not longer spelled than it stood, but for twelve bytes. -/
theorem tok_valid (l : List UInt8) (hc : (tokL l).code = 0) (hne : l ≠ []) : validB (tokL l).kind (tokL l).text (tokL l).n = true ∧ (tokL l).kind ≠ 5 ∧ (spellS (tokL l).kind (tokL l).text (tokL l).n).length + (tokL l).rest.length ≤ l.length + 12 := by
  cases l with
  | nil => exact absurd rfl hne
  | cons c l =>
    by_cases hr : isRunB c = true
    · have e : tokL (c :: l) = clsL (c :: l.takeWhile isRunB) (l.dropWhile isRunB) := by
        unfold tokL; dsimp only; rw [if_pos hr]
      have hlen : (l.takeWhile isRunB).length + (l.dropWhile isRunB).length = l.length := by
        rw [← List.length_append, List.takeWhile_append_dropWhile]
      rw [e] at hc ⊢
      have hall : (c :: l.takeWhile isRunB).all isRunB = true := by rw [List.all_cons, hr, all_tw]; rfl
      unfold clsL at hc ⊢
      by_cases h2 : (numL (c :: l.takeWhile isRunB)).2 = 2
      · rw [if_pos h2] at hc ⊢
        dsimp only at hc ⊢
        refine ⟨?_, by decide, ?_⟩
        · unfold validB
          rw [if_neg (by rintro ⟨_, h⟩; exact h rfl), if_pos rfl, hall, hc]; rfl
        · have : spellS 1 (c :: l.takeWhile isRunB) 0 = c :: l.takeWhile isRunB := by simp [spellS]
          rw [this, List.length_cons, List.length_cons]; omega
      · rw [if_neg h2] at hc ⊢
        dsimp only at hc ⊢
        have hn : 0 ≤ (numL (c :: l.takeWhile isRunB)).1 ∧ (numL (c :: l.takeWhile isRunB)).1 ≤ 1000000000 := by
          revert hc h2
          unfold numL
          dsimp only
          (repeat' split) <;> intro hc h2
          · exact absurd hc (by decide)
          · exact absurd hc (by decide)
          · exact absurd hc (by decide)
          · exact absurd hc (by decide)
          · dsimp only; omega
        refine ⟨?_, by decide, ?_⟩
        · unfold validB
          rw [if_neg (by rintro ⟨h, _⟩; exact h rfl), if_neg (by decide), if_pos rfl]
          simp [hn.1, hn.2]
        · have : spellS 2 [] (numL (c :: l.takeWhile isRunB)).1 = numS (numL (c :: l.takeWhile isRunB)).1.toNat := by
            unfold spellS
            rw [if_neg (by decide), if_pos rfl, if_pos hn]
          have hl := numS_len (numL (c :: l.takeWhile isRunB)).1.toNat (by omega)
          rw [this, List.length_cons]; omega
    · by_cases h34 : c.toNat = 34
      · have e : tokL (c :: l) = textL l := by
          unfold tokL; dsimp only; rw [if_neg hr, if_pos h34]
        rw [e] at hc ⊢
        unfold textL at hc ⊢
        have hlen : (l.takeWhile inStr).length + (l.dropWhile inStr).length = l.length := by
          rw [← List.length_append, List.takeWhile_append_dropWhile]
        cases hd : l.dropWhile inStr with
        | nil => rw [hd] at hc; cases hc
        | cons x r =>
          rw [hd] at hc hlen
          dsimp only at hc ⊢
          by_cases hx : x.toNat = 34
          · rw [if_pos hx] at hc ⊢
            dsimp only at hc ⊢
            refine ⟨?_, by decide, ?_⟩
            · unfold validB
              rw [if_neg (by rintro ⟨_, h⟩; exact h rfl), if_neg (by decide), if_neg (by decide), if_pos rfl, hc]; rfl
            · have : spellS 3 (l.takeWhile inStr) 0 = 34 :: l.takeWhile inStr ++ [34] := by simp [spellS]
              rw [this]
              simp only [List.length_append, List.length_cons, List.length_nil] at hlen ⊢
              omega
          · rw [if_neg hx] at hc; cases hc
      · by_cases h5 : kindOf c.toNat = 5
        · have e : tokL (c :: l) = ⟨4, [c], 0, l, 0⟩ := by
            unfold tokL; dsimp only; rw [if_neg hr, if_neg h34, if_pos h5]
          rw [e]
          dsimp only
          refine ⟨?_, by decide, ?_⟩
          · unfold validB
            rw [if_neg (by rintro ⟨_, h⟩; exact h rfl), if_neg (by decide), if_neg (by decide), if_neg (by decide), if_pos rfl]
            simp [h5]
          · have : spellS 4 [c] 0 = [c] := by simp [spellS]
            rw [this]; simp; omega
        · have e : tokL (c :: l) = ⟨0, [], 0, [], 2⟩ := by
            unfold tokL; dsimp only; rw [if_neg hr, if_neg h34, if_neg h5]
          rw [e] at hc; cases hc
/-- A blank behind what is read whole. -/
theorem tok_append (s r : List UInt8) (hs : s ≠ []) (hc : (tokL s).code = 0) (hr : (tokL s).rest = []) : tokL (s ++ 32 :: r) = ⟨(tokL s).kind, (tokL s).text, (tokL s).n, 32 :: r, 0⟩ := by
  cases s with
  | nil => exact absurd rfl hs
  | cons c l =>
    by_cases hrun : isRunB c = true
    · have hall := tok_rest_run hrun hr
      have e1 : tokL (c :: l) = clsL (c :: l) [] := tok_run _ (by simp) hall
      rw [e1] at hc ⊢
      rw [List.all_cons, Bool.and_eq_true] at hall
      obtain ⟨t1, t2⟩ := tw_all hall.2
      have a1 : (l ++ 32 :: r).takeWhile isRunB = l := by
        rw [List.takeWhile_append, if_pos (by rw [t1]), List.takeWhile_cons_of_neg (by decide), List.append_nil]
      have a2 : (l ++ 32 :: r).dropWhile isRunB = 32 :: r := by
        rw [List.dropWhile_append, if_pos (by rw [t2]; rfl), List.dropWhile_cons_of_neg (by decide)]
      have e2 : tokL ((c :: l) ++ 32 :: r) = clsL (c :: l) (32 :: r) := by
        show tokL (c :: (l ++ 32 :: r)) = _
        unfold tokL; dsimp only; rw [if_pos hrun, a1, a2]
      rw [e2]
      unfold clsL at hc ⊢
      by_cases h2 : (numL (c :: l)).2 = 2
      · rw [if_pos h2] at hc ⊢
        rw [if_pos h2]
        dsimp only at hc ⊢
        rw [hc]
      · rw [if_neg h2] at hc ⊢
        rw [if_neg h2]
        dsimp only at hc ⊢
        rw [hc]
    · by_cases h34 : c.toNat = 34
      · have e1 : tokL (c :: l) = textL l := by
          unfold tokL; dsimp only; rw [if_neg hrun, if_pos h34]
        have e2 : tokL ((c :: l) ++ 32 :: r) = textL (l ++ 32 :: r) := by
          show tokL (c :: (l ++ 32 :: r)) = _
          unfold tokL; dsimp only; rw [if_neg hrun, if_pos h34]
        rw [e1] at hc hr ⊢
        rw [e2]
        unfold textL at hc hr ⊢
        cases hd : l.dropWhile inStr with
        | nil => rw [hd] at hc; cases hc
        | cons x y =>
          rw [hd] at hc hr
          dsimp only at hc hr ⊢
          by_cases hx : x.toNat = 34
          · rw [if_pos hx] at hc hr ⊢
            dsimp only at hc hr ⊢
            subst hr
            have a2 : (l ++ 32 :: r).dropWhile inStr = x :: 32 :: r := by
              rw [List.dropWhile_append, hd]; rfl
            have hne : ¬ (l.takeWhile inStr).length = l.length := by
              intro h
              have : (l.takeWhile inStr).length + (l.dropWhile inStr).length = l.length := by
                rw [← List.length_append, List.takeWhile_append_dropWhile]
              rw [hd] at this
              simp at this
              omega
            have a1 : (l ++ 32 :: r).takeWhile inStr = l.takeWhile inStr := by
              rw [List.takeWhile_append, if_neg hne]
            rw [a1, a2]
            dsimp only
            rw [if_pos hx, hc]
          · rw [if_neg hx] at hc; cases hc
      · by_cases h5 : kindOf c.toNat = 5
        · have e : ∀ m, tokL (c :: m) = ⟨4, [c], 0, m, 0⟩ := by
            intro m; unfold tokL; dsimp only; rw [if_neg hrun, if_neg h34, if_pos h5]
          rw [e] at hr ⊢
          dsimp only at hr
          subst hr
          show tokL (c :: ([] ++ 32 :: r)) = _
          rw [e]; rfl
        · have e : tokL (c :: l) = ⟨0, [], 0, [], 2⟩ := by
            unfold tokL; dsimp only; rw [if_neg hrun, if_neg h34, if_neg h5]
          rw [e] at hc; cases hc
theorem skip_blank (l : List UInt8) : skipL false (32 :: l) = skipL false l := by simp [skipL, kindOf]
/-- Tokens that are lexed out of what they are joined to. -/
theorem relex : ∀ (us : List Tok) (f : Nat), us.length < f → (∀ u ∈ us, validB u.kind u.text u.n = true ∧ u.kind ≠ 5) →
    ∃ vs, lexL f (Lib.join (us.map fun u => spellS u.kind u.text u.n) [32]) = .ok vs ∧ vs.map (fun v => (v.kind, v.text, v.n)) = us.map (fun u => (u.kind, u.text, u.n)) ++ [(5, [], 0)] := by
  intro us
  induction us with
  | nil =>
    intro f hf _
    cases f with
    | zero => simp at hf
    | succ f => exact ⟨[⟨5, [], 0, 0⟩], rfl, rfl⟩
  | cons u us ih =>
    intro f hf h
    cases f with
    | zero => simp at hf
    | succ f =>
      obtain ⟨hv, h5⟩ := h u (by simp)
      obtain ⟨⟨hc, hr, hk, ht, hn⟩, hne, _⟩ := reads_of_valid hv h5
      obtain ⟨vs, g1, g2⟩ := ih f (by simp at hf; omega) (fun x hx => h x (by simp [hx]))
      have hread : ∀ l, tokL (spellS u.kind u.text u.n ++ l) = ⟨u.kind, u.text, u.n, l, 0⟩ → lexL f l = .ok vs → ∃ vs', lexL (f + 1) (spellS u.kind u.text u.n ++ l) = .ok vs' ∧ vs'.map (fun v => (v.kind, v.text, v.n)) = (u.kind, u.text, u.n) :: vs.map (fun v => (v.kind, v.text, v.n)) := by
        intro l hl hlex
        cases hx : spellS u.kind u.text u.n with
        | nil => exact absurd hx hne
        | cons c m =>
          rw [hx] at hl
          have hs := skip_tok c (m ++ l) (by rw [← List.cons_append, hl])
          refine ⟨⟨u.kind, u.text, u.n, (c :: m ++ l).length⟩ :: vs, ?_, rfl⟩
          simp only [lexL, List.cons_append, hs]
          rw [List.cons_append] at hl
          rw [hl]
          simp only [hlex]
          rw [if_neg (by simp), if_neg (by simp)]
      cases us with
      | nil =>
        rw [List.map_cons, List.map_nil, Lib.join_one]
        rw [List.map_nil, Lib.join_nil] at g1
        obtain ⟨vs', k1, k2⟩ := hread [] (by
          rw [List.append_nil]
          have : tokL (spellS u.kind u.text u.n) = ⟨(tokL (spellS u.kind u.text u.n)).kind, (tokL (spellS u.kind u.text u.n)).text, (tokL (spellS u.kind u.text u.n)).n, (tokL (spellS u.kind u.text u.n)).rest, (tokL (spellS u.kind u.text u.n)).code⟩ := rfl
          rw [this, hc, hr, hk, ht, hn]) g1
        rw [List.append_nil] at k1
        refine ⟨vs', k1, ?_⟩
        rw [k2, g2]; rfl
      | cons y ys =>
        have hj : Lib.join ((u :: y :: ys).map fun u => spellS u.kind u.text u.n) [32] = spellS u.kind u.text u.n ++ 32 :: Lib.join ((y :: ys).map fun u => spellS u.kind u.text u.n) [32] := by
          simp only [List.map_cons]
          rw [Lib.join_cons, Lib.join_cons]
          simp [Lib.joinTail]
        rw [hj]
        have hf' : ∃ g, f = g + 1 := ⟨f - 1, by simp at hf; omega⟩
        obtain ⟨g, rfl⟩ := hf'
        obtain ⟨vs', k1, k2⟩ := hread (32 :: Lib.join ((y :: ys).map fun u => spellS u.kind u.text u.n) [32]) (by
          rw [tok_append _ _ hne hc hr, hk, ht, hn]) (by
          rw [lexL_skip g _ _ (skip_blank _)]; exact g1)
        refine ⟨vs', k1, ?_⟩
        rw [k2, g2]; rfl
/-- What a source is lexed to: valid tokens in order, the end at last, and not long when spelled. -/
theorem lex_good : ∀ (f : Nat) (l : List UInt8) (ts : List Tok), l.length < f → lexL f l = .ok ts →
    ∃ us : List Tok, ts = us ++ [endT] ∧ (∀ u ∈ us, validB u.kind u.text u.n = true ∧ u.kind ≠ 5 ∧ 0 < u.rem ∧ u.rem ≤ l.length ∧ u.text.length ≤ l.length) ∧ us.Pairwise (fun a b => b.rem < a.rem) ∧ us.length ≤ l.length ∧
      (us.map fun u => (spellS u.kind u.text u.n).length).sum ≤ l.length + 12 * us.length := by
  intro f
  induction f with
  | zero => intro l ts hf; omega
  | succ f ih =>
    intro l ts hf hx
    have hsk := (skipL_suffix l false).length_le
    simp only [lexL] at hx
    by_cases hc : (tokL (skipL false l)).code = 0
    · have hc2 : ¬ (tokL (skipL false l)).code ≠ 0 := by simp [hc]
      rw [if_neg hc2] at hx
      by_cases h0 : skipL false l = []
      · rw [if_pos h0] at hx
        cases hx
        exact ⟨[], rfl, by simp, by simp, by simp, by simp⟩
      · rw [if_neg h0] at hx
        obtain ⟨h1, h2⟩ := tok_suffix (skipL false l) hc
        obtain ⟨h3, h4⟩ := h2 h0
        obtain ⟨v1, v2, v3⟩ := tok_valid (skipL false l) hc h0
        generalize skipL false l = m at hsk h0 hx h1 h3 h4 v1 v2 v3 hc
        cases hy : lexL f (tokL m).rest with
        | error e => rw [hy] at hx; cases hx
        | ok ws =>
          rw [hy] at hx
          cases hx
          obtain ⟨us, rfl, g1, g2, g3, g4⟩ := ih _ _ (by omega) hy
          have htl : (tokL m).text.length ≤ m.length := by
            have := reads_of_valid v1 v2
            cases m with
            | nil => exact absurd rfl h0
            | cons c r =>
              unfold tokL
              dsimp only
              have hle1 : (r.takeWhile isRunB).length ≤ r.length := (List.takeWhile_prefix _).length_le
              have hle2 : (r.takeWhile inStr).length ≤ r.length := (List.takeWhile_prefix _).length_le
              (repeat' split)
              · unfold clsL; split <;> simp <;> omega
              · unfold textL
                split
                · simp
                · split <;> simp <;> omega
              · simp
              · simp
          refine ⟨⟨(tokL m).kind, (tokL m).text, (tokL m).n, m.length⟩ :: us, rfl, ?_, ?_, ?_, ?_⟩
          · intro u hu
            rcases List.mem_cons.1 hu with rfl | hu
            · exact ⟨v1, v2, List.length_pos_iff.2 h0, hsk, by dsimp only; omega⟩
            · obtain ⟨a1, a2, a3, a4, a5⟩ := g1 u hu
              exact ⟨a1, a2, a3, by omega, by omega⟩
          · refine List.pairwise_cons.2 ⟨fun b hb => ?_, g2⟩
            have := (g1 b hb).2.2.2.1
            dsimp only; omega
          · simp only [List.length_cons]; omega
          · simp only [List.map_cons, List.sum_cons, List.length_cons]
            omega
    · rw [if_pos (show (tokL (skipL false l)).code ≠ 0 from hc)] at hx
      cases hx
theorem joinTail_sum (r : List (List UInt8)) : (Lib.joinTail [32] r).length = (r.map List.length).sum + r.length := by
  induction r with
  | nil => rfl
  | cons x r ih =>
    have e : Lib.joinTail [32] (x :: r) = [32] ++ x ++ Lib.joinTail [32] r := by simp [Lib.joinTail]
    rw [e, List.length_append, List.length_append, ih]
    simp only [List.length_cons, List.length_nil, List.map_cons, List.sum_cons]
    omega
theorem join_sum (ps : List (List UInt8)) : (Lib.join ps [32]).length ≤ (ps.map List.length).sum + ps.length := by
  cases ps with
  | nil => simp [Lib.join_nil]
  | cons x r =>
    rw [Lib.join_cons, List.length_append, joinTail_sum]
    simp only [List.map_cons, List.sum_cons, List.length_cons]
    omega
theorem lexerTokens : salchowlaw09_LexerTokens.Pure := by
  intro s _
  apply Ev.rounds
  unfold salchowlaw09_LexerTokens.f
  by_cases hs : (s.size : Int) > 2000
  · exact Ev.ifp hs (Ev.bind awake_f (Ev.now _))
  · refine Ev.ifn hs (Ev.bind (Lex_f s (by omega)) ?_)
    cases hx : lexL (s.size + 1) (lst s) with
    | error e =>
      have h0 := lexL_code _ _ _ hx
      have h1 := lexL_err _ _ _ hx
      rw [lst_length] at h1
      simp only [lexAns]
      exact Ev.ifp (by simp [h0]) (Ev.bind awake_f (Ev.ifp rfl (Ev.ifp (by omega) (Ev.ifp (by omega) (Ev.ifn h0 (Ev.ret (by simp)))))))
    | ok ts =>
      obtain ⟨us, rfl, g1, g2, g3, g4⟩ := lex_good _ _ _ (by rw [lst_length]; omega) hx
      rw [lst_length] at g1 g3 g4
      simp only [lexAns, List.nil_append]
      refine Ev.ifn (by simp) ?_
      have hTl : ((us ++ [endT]).map (Tok.at_ s.size)).length = us.length + 1 := by simp
      have hmem : ∀ t ∈ (us ++ [endT]).map (Tok.at_ s.size), t.f1.size ≤ 3000 := by
        intro t ht
        obtain ⟨u, hu, rfl⟩ := List.mem_map.1 ht
        show (str u.text).size ≤ 3000
        rw [size_str]
        rcases List.mem_append.1 hu with hu | hu
        · have := (g1 u hu).2.2.2.2; omega
        · rw [List.mem_singleton] at hu; rw [hu]; simp
      have hfin : Ev (fun k => (lexer_Join.f k ((us ++ [endT]).map (Tok.at_ s.size))).bind fun bt260 => (if bt260.2 = 6 then ((salchowlaw09_awake.f k).bind fun t262 => (if t262 = true then (some (decide ((s.size : Int) > 30000))) else (none))) else ((lexer_Lex.f k bt260.1).bind fun bt263 => ((salchowlaw09_awake.f k).bind fun t269 => (if t269 = true then (if bt260.2 = 0 then (if (bt263.2.1 == 0 && (bt263.2.2 == 0)) = true then ((salchowref09_Same.f k ((us ++ [endT]).map (Tok.at_ s.size)) bt263.1 false).bind fun t270 => (some t270)) else (none)) else (none)) else (none)))))) true := by
        have hbad : ∀ vs : List Tok, (∀ u ∈ vs, validB u.kind u.text u.n = true ∧ u.kind ≠ 5) → badL ((vs ++ [endT]).map (Tok.at_ s.size)) = false := by
          intro vs
          induction vs with
          | nil => intro _; rfl
          | cons v vs ih =>
            intro h
            obtain ⟨a, b⟩ := h v (by simp)
            rw [List.cons_append, List.map_cons]
            have e : okT (v.at_ s.size) = true := a
            have e2 : ((v.at_ s.size).f0 == 5) = false := by simpa using (show (v.at_ s.size).f0 ≠ 5 from b)
            unfold badL
            rw [e, e2, ih (fun u hu => h u (by simp [hu]))]
            rfl
        have hparts : ∀ vs : List Tok, (∀ u ∈ vs, u.kind ≠ 5) → partsL ((vs ++ [endT]).map (Tok.at_ s.size)) = vs.map fun u => spellS u.kind u.text u.n := by
          intro vs
          induction vs with
          | nil => intro _; rfl
          | cons v vs ih =>
            intro h
            rw [List.cons_append, List.map_cons, parts_cons, if_neg (show (v.at_ s.size).f0 ≠ 5 from h v (by simp)), ih (fun u hu => h u (by simp [hu]))]
            rfl
        have hj := join_f _ (by rw [hTl]; omega) hmem
        unfold joinAns at hj
        rw [hbad us (fun u hu => ⟨(g1 u hu).1, (g1 u hu).2.1⟩), hparts us (fun u hu => (g1 u hu).2.1)] at hj
        have hjl := join_sum (us.map fun u => spellS u.kind u.text u.n)
        rw [List.map_map, List.length_map] at hjl
        have hjl2 : (Lib.join (us.map fun u => spellS u.kind u.text u.n) [32]).length ≤ 40000 := by
          have : (us.map (List.length ∘ fun u => spellS u.kind u.text u.n)).sum = (us.map fun u => (spellS u.kind u.text u.n).length).sum := rfl
          rw [this] at hjl
          omega
        unfold finJ at hj
        rw [if_neg (by simp), if_neg (by omega)] at hj
        obtain ⟨vs, k1, k2⟩ := relex us ((Lib.join (us.map fun u => spellS u.kind u.text u.n) [32]).length + us.length + 1) (by omega) (fun u hu => ⟨(g1 u hu).1, (g1 u hu).2.1⟩)
        refine Ev.bind hj (Ev.ifn (by simp) ?_)
        have hlx := Lex_f (str (Lib.join (us.map fun u => spellS u.kind u.text u.n) [32])) (by rw [size_str]; omega)
        rw [size_str, lst_str, lexL_fuel _ ((Lib.join (us.map fun u => spellS u.kind u.text u.n) [32]).length + us.length + 1) _ (by omega) (by omega), k1] at hlx
        refine Ev.bind hlx (Ev.bind awake_f (Ev.ifp rfl (Ev.ifp rfl (Ev.ifp (by simp [lexAns]) (Ev.bind (same_f false _ _ ?_ (by rw [hTl]; omega)) (Ev.now _))))))
        simp only [lexAns, List.nil_append, List.map_map]
        have a : ∀ (n : Nat) (ws : List Tok), ws.map (fixT false ∘ Tok.at_ n) = (ws.map fun v => (v.kind, v.text, v.n)).map fun q => (⟨q.1, str q.2.1, q.2.2, 0⟩ : S46) := by
          intro n ws
          rw [List.map_map]
          rfl
        rw [a, a, k2, List.map_append]
        rfl
      have loop : ∀ (ws vs : List Tok) (at0 : Int), us = vs ++ ws → (∀ u ∈ ws, at0 < (s.size : Int) - u.rem) → at0 < s.size → Ev (fun k => salchowlaw09_LexerTokens.l0 k s ((us ++ [endT]).map (Tok.at_ s.size)) at0 vs.length) true := by
        intro ws
        induction ws with
        | nil =>
          intro vs at0 he _ hat
          have hv : us = vs := by rw [he, List.append_nil]
          have hrd : rd_T46 ((us ++ [endT]).map (Tok.at_ s.size)) ((vs.length : Nat) : Int) = endT.at_ s.size := by
            rw [hv, List.map_append]
            have : vs.length = (vs.map (Tok.at_ s.size)).length := by simp
            rw [this]
            exact rd_mid _ _ _
          refine Ev.succ ?_
          simp only [salchowlaw09_LexerTokens.l0]
          rw [hrd, hTl, hv, wrap_nat _ (by rw [← hv]; omega)]
          refine Ev.ifp (by omega) (Ev.ifp (by omega) (Ev.bind (valid_f _ _ (by show (str []).size ≤ _; simp) _ _) (Ev.ifp (by rfl) (Ev.ifn ?_ (Ev.ifn ?_ (Ev.succ ?_))))))
          · show ¬ (s.size : Int) - ((0 : Nat) : Int) ≤ at0
            omega
          · show ¬ (s.size : Int) - ((0 : Nat) : Int) > s.size
            omega
          · simp only [salchowlaw09_LexerTokens.l0]
            rw [← hv, hTl]
            refine Ev.ifn (by omega) ?_
            exact hfin
        | cons w ws ih =>
          intro vs at0 he hlo hat
          have hin : w ∈ us := by rw [he]; simp
          obtain ⟨a1, a2, a3, a4, a5⟩ := g1 w hin
          have hrd : rd_T46 ((us ++ [endT]).map (Tok.at_ s.size)) ((vs.length : Nat) : Int) = w.at_ s.size := by
            rw [he, List.append_assoc, List.cons_append, List.map_append, List.map_cons]
            have : vs.length = (vs.map (Tok.at_ s.size)).length := by simp
            rw [this]
            exact rd_mid _ _ _
          have hvl : vs.length ≤ us.length := by rw [he]; simp
          refine Ev.succ ?_
          simp only [salchowlaw09_LexerTokens.l0]
          rw [hrd, hTl, wrap_nat _ (by omega)]
          have hlw := hlo w (by simp)
          refine Ev.ifp (by omega) (Ev.ifp (by omega) (Ev.bind (valid_f _ _ (by show (str w.text).size ≤ _; rw [size_str]; omega) _ _) (Ev.ifp a1 (Ev.ifn ?_ (Ev.ifn ?_ ?_)))))
          · show ¬ (s.size : Int) - (w.rem : Int) ≤ at0
            omega
          · show ¬ (s.size : Int) - (w.rem : Int) > s.size
            omega
          · have := ih (vs ++ [w]) ((s.size : Int) - w.rem) (by rw [he]; simp) (by
              intro u hu
              rw [he] at g2
              have := (List.pairwise_append.1 g2).2.1
              have := (List.pairwise_cons.1 this).1 u hu
              omega) (by omega)
            rw [List.length_append] at this
            exact this
      exact loop us [] (-1) rfl (fun u hu => by have := (g1 u hu).2.2.2.1; omega) (by omega)
end Go.Proofs.YtkifdadhojbohaaDoor.Pu
namespace Go.Proofs.YtkifdadhojbohaaDoor.lexerTokens
open Go.ChangeShapes Go.WideShapes Go.ChangeAt Go.RowKit Rk
open Go.ChangeMaps (open_string shut_string)
theorem c09 : (Rows.lexerTokensRow.inPlace == Tryd.prog.inPlace 14) = true := by kernel_rfl
theorem c10 : (Rows.lexerTokensRow.unfollowed == Tryd.prog.unfollowed 14) = true := by kernel_rfl
theorem c11 : (Rows.lexerTokensRow.recurses == Tryd.prog.recurses 14) = true := by kernel_rfl
theorem c12 : (Rows.lexerTokensRow.named == Tryd.prog.varsNamed 14) = true := by kernel_rfl
theorem facts : joinedFacts Tryd.prog 14 Tryd.f14 Rows.lexerTokensSpec Rows.lexerTokensRow = true :=
  facts_of _ _ _ _ _ (by kernel_rfl) out_ rowed_ (by kernel_rfl) (by kernel_rfl) rfl (by kernel_rfl) rfl (by kernel_rfl) c09 c10 c11 c12 (by kernel_rfl) (by kernel_rfl) (by kernel_rfl) (by kernel_rfl) (by kernel_rfl)
    (by kernel_rfl) (by kernel_rfl) (by kernel_rfl) (by kernel_rfl) (by kernel_rfl) (by kernel_rfl) heard_ enter_ (by kernel_rfl) (by kernel_rfl) (by kernel_rfl) (by kernel_rfl) (by kernel_rfl) (by kernel_rfl)
theorem goes : false = Rows.lexerTokensRow.goesBy Tryd.prog := by kernel_rfl
set_option maxRecDepth 100000 in
theorem lifted (os : Os) (started : os.Started) (H : Type) (enc : TypeId × Value → H) :
    ReturnsInHanded {} Tryd.checked os 14 .any (fun w args => (Rows.lexerTokensSpec.pre enc Tryd.prog Tryd.f14 [] false w args ∧ laidMetH Tryd.prog laidB w) ∧ sizedMet enc Tryd.prog Tryd.f14 (OpenSpec.ofChange Rows.lexerTokensSpec) false w args)
      (Rows.lexerTokensSpec.post enc Tryd.prog Tryd.f14 false true false false) := by
  refine returnsInHanded_of_change_and (C := Tryd.checked) (X := fun w _ => laidMetH Tryd.prog laidB w) (fun _ _ _ hh h => h.of_heap hh) own started (by kernel_rfl) Tryd.func14
    (ChangeSpec.witness_shaped (enc := enc) (C := Tryd.checked) (os := os) (X := fun w _ => laidMetH Tryd.prog laidB w) false (wB os) #[.string ByteArray.empty] 8 (World.laidAll_os _ _ _)
      (World.shaped_of_ZipB (by kernel_rfl) (by kernel_rfl)) (by kernel_rfl) (by kernel_rfl) (by kernel_rfl) (met_B os _)) ?_
  intro W base args ds gs before hval0 hW _ hsz0 hL _
  have hsz : (DataW.weightsEach Tryd.prog (Tryd.f14.params.toList ++ Rows.lexerTokensSpec.plain.varTypes Tryd.prog) (ds ++ gs)).all (· ≤ reachBytes) = true := hsz0
  have hval : ∀ (j : Nat) t v, Tryd.f14.params[j]? = some t → args[j]? = some v → Value.okWide Tryd.prog W .any base t v := hval0
  have hW' := hW
  obtain ⟨p, q, hA0, hV, rfl, _, _⟩ := hW
  have hA : DataW.TrodAll enc Tryd.prog W 0 (fun _ => true) true Tryd.f14.params.toList args.toList ds p := hA0
  rw [Tryd.params14] at hA hval hsz
  obtain ⟨v0, vs0, d0, ds0, p0, q0, hargs, rfl, rfl, h0, r0⟩ := trodAll_cons hA
  obtain ⟨rfl, rfl, rfl⟩ := trodAll_nil r0
  obtain rfl : args = #[v0] := by cases args; simp_all
  obtain ⟨rfl, rfl⟩ := trodVars_none hV
  obtain ⟨a0, rfl, rfl, rfl, y0⟩ := open_string Tryd.underlying9 (hval 0 9 v0 rfl rfl) h0
  have w0 : a0.size ≤ 140737488351232 := by
    have z := sized_string hsz (j := 0) (t := 9) rfl rfl
    rw [Array.length_toList] at z
    exact z
  clear hA0 hval0 hsz0 hsz
  refine (Pr.salchowlaw09_LexerTokens.walk Pu.lexerTokens a0 W (gl_B hL) w0).mono fun e W' ⟨he, bel⟩ => ?_
  subst he
  exact ⟨_, rfl, _, _, _, [], _, [], hW', trodAll_mk1 (shut_bool Tryd.underlying4 _), (trodAll_cons_mk (shut_string Tryd.underlying9 y0) trodAll_mk0), rfl, bel.frame _, fun h => by cases h⟩
theorem over : Rows.lexerTokensRow.holds Tryd.pinned (OpenSpec.ofChange Rows.lexerTokensSpec) :=
  OpenClaim.holds_of_wide 14 Tryd.f14 rfl rfl rfl rfl rfl rfl rfl ⟨rfl, rfl, rfl, rfl, rfl⟩ rfl rfl rfl rfl rfl (by kernel_rfl) Tryd.func14 facts
    (of_decide_eq_true (by kernel_rfl)) (by unfold Func.isWrapper; first | (rw [if_pos (by decide +kernel)]; kernel_rfl) | (rw [if_neg (by decide +kernel)]; exact ⟨rfl, rfl⟩))
    (fun os started H enc _ => lifted os started H enc)
theorem card : Rows.LexerTokensCardSaid :=
  Claim7.holds_tied_plain_at .later [] [.data, .data, .data, .data, .sentinel, .sentinel, .pinned] true (true, "74d2011260c70b611c86c4d3b7f5d11cc5fefff18c715f175ff3522b41f9dd0c") true
    over (fun _ h => by cases h) (by kernel_rfl) (fun _ h => by cases h) lexerTokens_row_tie rfl ⟨rfl, rfl⟩ mainIs_ rfl
    (fun f fn hf hfn => by
      obtain rfl : f = 14 := Option.some.inj ((show Tryd.prog.funcNamed "salchow/salchowlaw09.LexerTokens" = some 14 by kernel_rfl).symm.trans hf) |>.symm
      obtain rfl : fn = Tryd.f14 := (Option.some.inj (Tryd.func14.symm.trans hfn)).symm
      exact ⟨looks_, fun j t ht => by
        rw [Tryd.params14] at ht
        have hm : t ∈ [9] := by simpa using Array.mem_of_getElem? ht
        have hall : ([9].all fun u => !Tryd.prog.wantsStandIn u) = true := by kernel_rfl
        exact (show Tryd.prog.wantsStandIn t = false by simpa using List.all_eq_true.1 hall t hm)⟩)
    goes
#print axioms card
end Go.Proofs.YtkifdadhojbohaaDoor.lexerTokens
