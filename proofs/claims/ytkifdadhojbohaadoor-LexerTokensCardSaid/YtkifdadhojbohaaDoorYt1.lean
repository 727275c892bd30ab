/- Joined out of the texts of this proof that bear the names PuHc PrF13 PuK RowLexerSteps: what each shows stands over it there. -/
import Derived.Test.YtkifdadhojbohaaDoorYa1
import Derived.Test.YtkifdadhojbohaaDoorYb1
import Derived.Test.YtkifdadhojbohaaDoorYc2
import Derived.Test.YtkifdadhojbohaaDoorYe1
import Derived.Test.YtkifdadhojbohaaDoorYr1
import Derived.Test.YtkifdadhojbohaaDoorCards
import Derived.Test.YtkifdadhojbohaaDoorTie
import Derived.WalkKit
import Derived.OpenShut
import Derived.ShutString
import Derived.ChangeOld
import Derived.SizedLaws
import Derived.SevenTiedAt
import Derived.Handed
import Derived.LaidLaws
set_option linter.unusedVariables false
set_option linter.unusedSimpArgs false
namespace Go.Proofs.YtkifdadhojbohaaDoor.Pu
open Go.RowKit Go.Proofs.YtkifdadhojbohaaDoor Go.Proofs.YtkifdadhojbohaaDoor.Pr Go.Proofs.YtkifdadhojbohaaDoorW.PrintWords Go.Proofs.YtkifdadhojbohaaDoorW.PrintLast
theorem rd_mid (xs ys : List S46) (y : S46) : rd_T46 (xs ++ y :: ys) ((xs.length : Nat) : Int) = y := by
  simp [rd_T46]
theorem lexL_code : ∀ (f : Nat) (l : List UInt8) (e : Int × Nat), lexL f l = .error e → e.1 ≠ 0 := by
  intro f
  induction f with
  | zero => intro l e h; simp [lexL] at h
  | succ f ih =>
    intro l e h
    simp only [lexL] at h
    by_cases hc : (tokL (skipL false l)).code = 0
    · have hc2 : ¬ (tokL (skipL false l)).code ≠ 0 := by simp [hc]
      rw [if_neg hc2] at h
      by_cases h0 : skipL false l = []
      · rw [if_pos h0] at h; cases h
      · rw [if_neg h0] at h
        split at h
        · rename_i x hx
          have := ih _ _ hx
          cases h
          exact this
        · cases h
    · rw [if_pos (show (tokL (skipL false l)).code ≠ 0 from hc)] at h
      cases h
      exact hc
end Go.Proofs.YtkifdadhojbohaaDoor.Pu
namespace Go.Proofs.YtkifdadhojbohaaDoor.Pr
open Go.Proofs.YtkifdadhojbohaaDoor
open Go.RowKit Go.Proofs.YtkifdadhojbohaaDoorW.PrintWords Go.Proofs.YtkifdadhojbohaaDoorW.PrintLast Go.Proofs.YtkifdadhojbohaaDoorW.PrintMore
attribute [local go_sem] max2_int min2_int max_two min_two max_three min_three max_four min_four   -- for this text's walks alone
set_option linter.unusedVariables false
set_option linter.unusedSimpArgs false
attribute [local go_sem high] eqA26 eqA46
/-! ### salchowlaw09_LexerSteps: function 13 -/
mutual
def salchowlaw09_LexerSteps.l0 : Nat → ByteArray → List (S46) → Int → Int → Int → Int → Option (Bool)
  | 0, _, _, _, _, _, _ => none
  | k + 1, x0, x3, x5, x6, x303000, x303001 => if x6 ≤ (wrap64 ((x0.size : Int) + 1)) then ((lexer_Next.f k x0 x5).bind fun bt303 => (if (!(bt303.2.2.2.2.2.1 == 0) || (!(bt303.2.2.2.2.2.2 == 0))) = true then ((salchowlaw09_awake.f k).bind fun t312 => (if t312 = true then (if (bt303.2.2.2.2.2.1 == x303000 && (bt303.2.2.2.2.2.2 == x303001)) = true then (some ((x3.length : Int) == 0)) else (none)) else (none))) else (if bt303.2.2.2.2.1 < x5 then (salchowlaw09_LexerSteps.j1 k x0 x3 x6 bt303.2.2.2.2.1 true x303000 x303001 bt303.1 bt303.2.1 bt303.2.2.1 bt303.2.2.2.1) else (salchowlaw09_LexerSteps.j1 k x0 x3 x6 bt303.2.2.2.2.1 (decide (bt303.2.2.2.2.1 > (x0.size : Int))) x303000 x303001 bt303.1 bt303.2.1 bt303.2.2.1 bt303.2.2.2.1)))) else (none)
def salchowlaw09_LexerSteps.j1 : Nat → ByteArray → List (S46) → Int → Int → Bool → Int → Int → Int → ByteArray → Int → Int → Option (Bool)
  | 0, _, _, _, _, _, _, _, _, _, _, _ => none
  | k + 1, x0, x3, x6, x8, x55, x303000, x303001, x311000, x311001, x311002, x311003 => if x55 = true then (none) else (if (!(x303000 == 0) || (!(x303001 == 0))) = true then (if x311000 = 5 then (none) else (if (x3.length : Int) = 0 then (salchowlaw09_LexerSteps.l0 k x0 x3 x8 (wrap64 (x6 + 1)) x303000 x303001) else (none))) else (if x6 ≥ (x3.length : Int) then (salchowlaw09_LexerSteps.j2 k x0 x3 x6 x8 true x303000 x303001 x311000 x311001 x311002 x311003) else (if 0 ≤ x6 then (if x6 < (x3.length : Int) then (salchowlaw09_LexerSteps.j2 k x0 x3 x6 x8 (!(((rd_T46 x3 x6).f0) == x311000) || (!((((rd_T46 x3 x6).f1).toList) == x311001.toList) || (!(((rd_T46 x3 x6).f2) == x311002) || (!(((rd_T46 x3 x6).f3) == x311003))))) x303000 x303001 x311000 x311001 x311002 x311003) else (none)) else (none))))
def salchowlaw09_LexerSteps.j2 : Nat → ByteArray → List (S46) → Int → Int → Bool → Int → Int → Int → ByteArray → Int → Int → Option (Bool)
  | 0, _, _, _, _, _, _, _, _, _, _, _ => none
  | k + 1, x0, x3, x6, x8, x79, x303000, x303001, x311000, x311001, x311002, x311003 => if x79 = true then (none) else (if x311000 = 5 then ((salchowlaw09_awake.f k).bind fun t314 => (if t314 = true then (if (x303000 == 0 && (x303001 == 0)) = true then (if x6 = (wrap64 ((x3.length : Int) - 1)) then (if x8 = (x0.size : Int) then (some (x311003 == (x0.size : Int))) else (none)) else (none)) else (none)) else (none))) else (salchowlaw09_LexerSteps.l0 k x0 x3 x8 (wrap64 (x6 + 1)) x303000 x303001))
end
def salchowlaw09_LexerSteps.f (k : Nat) (a0 : ByteArray) : Option (Bool) := if (a0.size : Int) > 2000 then ((salchowlaw09_awake.f k).bind fun t296 => (some t296)) else ((lexer_Lex.f k a0).bind fun bt297 => (salchowlaw09_LexerSteps.l0 k a0 bt297.1 0 0 bt297.2.1 bt297.2.2))
theorem salchowlaw09_LexerSteps.mono_l : ∀ k, (∀ y0 y1 y2 y3 y4 y5, LeO (salchowlaw09_LexerSteps.l0 k y0 y1 y2 y3 y4 y5) (salchowlaw09_LexerSteps.l0 (k + 1) y0 y1 y2 y3 y4 y5)) ∧ (∀ y0 y1 y2 y3 y4 y5 y6 y7 y8 y9 y10, LeO (salchowlaw09_LexerSteps.j1 k y0 y1 y2 y3 y4 y5 y6 y7 y8 y9 y10) (salchowlaw09_LexerSteps.j1 (k + 1) y0 y1 y2 y3 y4 y5 y6 y7 y8 y9 y10)) ∧ (∀ y0 y1 y2 y3 y4 y5 y6 y7 y8 y9 y10, LeO (salchowlaw09_LexerSteps.j2 k y0 y1 y2 y3 y4 y5 y6 y7 y8 y9 y10) (salchowlaw09_LexerSteps.j2 (k + 1) y0 y1 y2 y3 y4 y5 y6 y7 y8 y9 y10))
  | 0 => ⟨fun _ _ _ _ _ _ r h => by simp [salchowlaw09_LexerSteps.l0] at h, fun _ _ _ _ _ _ _ _ _ _ _ r h => by simp [salchowlaw09_LexerSteps.j1] at h, fun _ _ _ _ _ _ _ _ _ _ _ r h => by simp [salchowlaw09_LexerSteps.j2] at h⟩
  | k + 1 => by
    obtain ⟨ih0, ih1, ih2⟩ := salchowlaw09_LexerSteps.mono_l k
    refine ⟨?_, ?_, ?_⟩
    · intro y0 y1 y2 y3 y4 y5
      unfold salchowlaw09_LexerSteps.l0
      repeat' first
      | (with_reducible exact ih0 _ _ _ _ _ _)
      | (with_reducible exact ih1 _ _ _ _ _ _ _ _ _ _ _)
      | (with_reducible exact ih2 _ _ _ _ _ _ _ _ _ _ _)
      | (with_reducible exact lexer_Lex.mono _ _)
      | (with_reducible exact lexer_Next.mono _ _ _)
      | (with_reducible exact salchowlaw09_awake.mono _)
      | (with_reducible exact LeO.refl _)
      | (with_reducible exact LeO.none _)
      | (with_reducible refine LeO.ite ?_ ?_)
      | (with_reducible refine LeO.bind ?_ (fun _ => ?_))
      | exact ih0 _ _ _ _ _ _
      | exact ih1 _ _ _ _ _ _ _ _ _ _ _
      | exact ih2 _ _ _ _ _ _ _ _ _ _ _
      | exact lexer_Lex.mono _ _
      | exact lexer_Next.mono _ _ _
      | exact salchowlaw09_awake.mono _
      | exact LeO.none _
      | refine LeO.ite ?_ ?_
      | refine LeO.bind ?_ (fun _ => ?_)
    · intro y0 y1 y2 y3 y4 y5 y6 y7 y8 y9 y10
      unfold salchowlaw09_LexerSteps.j1
      repeat' first
      | (with_reducible exact ih0 _ _ _ _ _ _)
      | (with_reducible exact ih1 _ _ _ _ _ _ _ _ _ _ _)
      | (with_reducible exact ih2 _ _ _ _ _ _ _ _ _ _ _)
      | (with_reducible exact lexer_Lex.mono _ _)
      | (with_reducible exact lexer_Next.mono _ _ _)
      | (with_reducible exact salchowlaw09_awake.mono _)
      | (with_reducible exact LeO.refl _)
      | (with_reducible exact LeO.none _)
      | (with_reducible refine LeO.ite ?_ ?_)
      | (with_reducible refine LeO.bind ?_ (fun _ => ?_))
      | exact ih0 _ _ _ _ _ _
      | exact ih1 _ _ _ _ _ _ _ _ _ _ _
      | exact ih2 _ _ _ _ _ _ _ _ _ _ _
      | exact lexer_Lex.mono _ _
      | exact lexer_Next.mono _ _ _
      | exact salchowlaw09_awake.mono _
      | exact LeO.none _
      | refine LeO.ite ?_ ?_
      | refine LeO.bind ?_ (fun _ => ?_)
    · intro y0 y1 y2 y3 y4 y5 y6 y7 y8 y9 y10
      unfold salchowlaw09_LexerSteps.j2
      repeat' first
      | (with_reducible exact ih0 _ _ _ _ _ _)
      | (with_reducible exact ih1 _ _ _ _ _ _ _ _ _ _ _)
      | (with_reducible exact ih2 _ _ _ _ _ _ _ _ _ _ _)
      | (with_reducible exact lexer_Lex.mono _ _)
      | (with_reducible exact lexer_Next.mono _ _ _)
      | (with_reducible exact salchowlaw09_awake.mono _)
      | (with_reducible exact LeO.refl _)
      | (with_reducible exact LeO.none _)
      | (with_reducible refine LeO.ite ?_ ?_)
      | (with_reducible refine LeO.bind ?_ (fun _ => ?_))
      | exact ih0 _ _ _ _ _ _
      | exact ih1 _ _ _ _ _ _ _ _ _ _ _
      | exact ih2 _ _ _ _ _ _ _ _ _ _ _
      | exact lexer_Lex.mono _ _
      | exact lexer_Next.mono _ _ _
      | exact salchowlaw09_awake.mono _
      | exact LeO.none _
      | refine LeO.ite ?_ ?_
      | refine LeO.bind ?_ (fun _ => ?_)
theorem salchowlaw09_LexerSteps.mono : ∀ a0 k, LeO (salchowlaw09_LexerSteps.f k a0) (salchowlaw09_LexerSteps.f (k + 1) a0) := by
  intro a0 k
  obtain ⟨ih0, ih1, ih2⟩ := salchowlaw09_LexerSteps.mono_l k
  unfold salchowlaw09_LexerSteps.f
  repeat' first
      | (with_reducible exact ih0 _ _ _ _ _ _)
      | (with_reducible exact ih1 _ _ _ _ _ _ _ _ _ _ _)
      | (with_reducible exact ih2 _ _ _ _ _ _ _ _ _ _ _)
      | (with_reducible exact lexer_Lex.mono _ _)
      | (with_reducible exact lexer_Next.mono _ _ _)
      | (with_reducible exact salchowlaw09_awake.mono _)
      | (with_reducible exact LeO.refl _)
      | (with_reducible exact LeO.none _)
      | (with_reducible refine LeO.ite ?_ ?_)
      | (with_reducible refine LeO.bind ?_ (fun _ => ?_))
      | exact ih0 _ _ _ _ _ _
      | exact ih1 _ _ _ _ _ _ _ _ _ _ _
      | exact ih2 _ _ _ _ _ _ _ _ _ _ _
      | exact lexer_Lex.mono _ _
      | exact lexer_Next.mono _ _ _
      | exact salchowlaw09_awake.mono _
      | exact LeO.none _
      | refine LeO.ite ?_ ?_
      | refine LeO.bind ?_ (fun _ => ?_)
set_option maxHeartbeats 8000000 in
set_option maxRecDepth 100000 in
theorem salchowlaw09_LexerSteps.calls (k : Nat) (a0 : ByteArray) (r : Bool) (w : World) (hG : Gl w) (h : salchowlaw09_LexerSteps.f k a0 = some r) :
    Calls Tryd.prog 13 #[.string a0] w fun e w' => e = .returned (.bool r) ∧ Below w.heap.size w w' := by
  have hu26 := Tryd.underlying26
  have hu46 := Tryd.underlying46
  have HB := Aside0.mk (Below.refl w.heap.size w)
  have H : (if (a0.size : Int) > 2000 then ((salchowlaw09_awake.f k).bind fun t296 => (some t296)) else ((lexer_Lex.f k a0).bind fun bt297 => (salchowlaw09_LexerSteps.l0 k a0 bt297.1 0 0 bt297.2.1 bt297.2.2))) = some r := h
  clear h
  by_cases c2 : (a0.size : Int) > 2000
  · rw [if_pos c2] at H
    have c2b0 : decide (2000 < (a0.size : Int)) = true := decide_eq_true c2
    have c2b1 : decide (2000 < a0.size) = true := decide_eq_true (by omega)
    clear c2
    replace H := Option.bind_eq_some_iff.mp H
    obtain ⟨t296, A30, H⟩ := H
    replace H : (some t296) = some r := H
    have A3 := Aside0.mk A30
    clear A30
    obtain rfl := Option.some.inj H
    go_enter Tryd.func13, Tryd.ntmps13
    go_wp2_with (first | (go_at_call 32; (with_reducible refine (salchowlaw09_awake.calls k  t296 _ ?side1 A3.out).mono ?_); (case side1 => exact Gl.below hG (bl_ HB.out)); rintro e w4 ⟨rfl, hb⟩; have n0_ := Aside0.mk (below_step (bl_ HB.out) hb); clear HB; have HB := n0_; clear n0_; (try clear hb); (try clear hb2); (try clear hk); (try clear hi)))
    repeat (go_quiet (first | (go_at_call 32; (with_reducible refine (salchowlaw09_awake.calls k  t296 _ ?side1 A3.out).mono ?_); (case side1 => exact Gl.below hG (bl_ HB.out)); rintro e w4 ⟨rfl, hb⟩; have n0_ := Aside0.mk (below_step (bl_ HB.out) hb); clear HB; have HB := n0_; clear n0_; (try clear hb); (try clear hb2); (try clear hk); (try clear hi))); try go_wp2_with (first | (go_at_call 32; (with_reducible refine (salchowlaw09_awake.calls k  t296 _ ?side1 A3.out).mono ?_); (case side1 => exact Gl.below hG (bl_ HB.out)); rintro e w4 ⟨rfl, hb⟩; have n0_ := Aside0.mk (below_step (bl_ HB.out) hb); clear HB; have HB := n0_; clear n0_; (try clear hb); (try clear hb2); (try clear hk); (try clear hi))))
    go_ret
    exact ⟨er_, bl_ HB.out⟩
  · rw [if_neg c2] at H
    have c2b0 : decide (2000 < (a0.size : Int)) = false := decide_eq_false c2
    have c2b1 : decide (2000 < a0.size) = false := decide_eq_false (by omega)
    clear c2
    replace H := Option.bind_eq_some_iff.mp H
    obtain ⟨⟨t297, t300, t301⟩, A50, H⟩ := H
    replace H : (salchowlaw09_LexerSteps.l0 k a0 t297 0 0 t300 t301) = some r := H
    have A5 := Aside0.mk A50
    clear A50
    have H' := Aside0.mk H
    clear H
    go_enter Tryd.func13, Tryd.ntmps13
    go_wp2_with (first | (go_at_call 25; (with_reducible refine (lexer_Lex.calls k a0 t297 t300 t301 _ A5.out).mono ?_); rintro e w6 ⟨v298, rfl, ho0, hb⟩; have n0_ := Aside0.mk (Kd.R_lower ho0 (below_size (bl_ HB.out))); have n1_ := Aside0.mk (below_step (bl_ HB.out) hb); clear HB; have HO299 := n0_; have HB := n1_; clear n0_ n1_; (try clear hb); (try clear hb2); (try clear hk); (try clear hi); (try clear ho0)) | ((with_reducible refine gate_dst (N := 4) rfl ?_); (try (refine gate_guard (by rfl) ?_; dsimp only)); refine box_event ?hg (N := 4) ?hd (cs := #[.int .i64 0, .int .i64 0]) (t := 26) ?hr ?_; (case hd => rfl); (case hg => rfl); (case hr => first | (go_simp; done) | (go_simp; rfl)); intro gb302 hg w7 hbox hb; have n0_ := Aside0.mk (Kd.R_below (by (with_reducible repeat (first | apply Kd.R_alloc | apply Kd.R_drewN | apply Kd.R_drew)); exact HO299.out) hb); have n1_ := Aside0.mk (below_step (bl_ HB.out) hb); have n2_ := Aside0.mk (hbox); have n3_ := Aside0.mk ((by rw [hg]; exact (below_size (bl_ HB.out)) : w.heap.size ≤ gb302)); have n4_ := Aside0.mk ((by rw [hg]; exact (below_size (bl_ HB.out)) : w.heap.size ≤ gb302)); clear HO299; clear HB; have HO299 := n0_; have HB := n1_; have BK302 := n2_; have GW302 := n3_; have GE302 := n4_; clear n0_ n1_ n2_ n3_ n4_; clear hb hbox hg; have hcz8_0 : w7.cell? ⟨gb302, 0, none⟩ = some (.int .i64 0) := (blk_cell BK302.out 0).trans rfl; have hcz8_1 : w7.cell? ⟨gb302, 1, none⟩ = some (.int .i64 0) := (blk_cell BK302.out 1).trans rfl; have hfz8_0 := blk_frozen BK302.out 0; have hfz8_1 := blk_frozen BK302.out 1))
    repeat (go_quiet (first | (go_at_call 25; (with_reducible refine (lexer_Lex.calls k a0 t297 t300 t301 _ A5.out).mono ?_); rintro e w6 ⟨v298, rfl, ho0, hb⟩; have n0_ := Aside0.mk (Kd.R_lower ho0 (below_size (bl_ HB.out))); have n1_ := Aside0.mk (below_step (bl_ HB.out) hb); clear HB; have HO299 := n0_; have HB := n1_; clear n0_ n1_; (try clear hb); (try clear hb2); (try clear hk); (try clear hi); (try clear ho0)) | ((with_reducible refine gate_dst (N := 4) rfl ?_); (try (refine gate_guard (by rfl) ?_; dsimp only)); refine box_event ?hg (N := 4) ?hd (cs := #[.int .i64 0, .int .i64 0]) (t := 26) ?hr ?_; (case hd => rfl); (case hg => rfl); (case hr => first | (go_simp; done) | (go_simp; rfl)); intro gb302 hg w7 hbox hb; have n0_ := Aside0.mk (Kd.R_below (by (with_reducible repeat (first | apply Kd.R_alloc | apply Kd.R_drewN | apply Kd.R_drew)); exact HO299.out) hb); have n1_ := Aside0.mk (below_step (bl_ HB.out) hb); have n2_ := Aside0.mk (hbox); have n3_ := Aside0.mk ((by rw [hg]; exact (below_size (bl_ HB.out)) : w.heap.size ≤ gb302)); have n4_ := Aside0.mk ((by rw [hg]; exact (below_size (bl_ HB.out)) : w.heap.size ≤ gb302)); clear HO299; clear HB; have HO299 := n0_; have HB := n1_; have BK302 := n2_; have GW302 := n3_; have GE302 := n4_; clear n0_ n1_ n2_ n3_ n4_; clear hb hbox hg; have hcz8_0 : w7.cell? ⟨gb302, 0, none⟩ = some (.int .i64 0) := (blk_cell BK302.out 0).trans rfl; have hcz8_1 : w7.cell? ⟨gb302, 1, none⟩ = some (.int .i64 0) := (blk_cell BK302.out 1).trans rfl; have hfz8_0 := blk_frozen BK302.out 0; have hfz8_1 := blk_frozen BK302.out 1)); try go_wp2_with (first | (go_at_call 25; (with_reducible refine (lexer_Lex.calls k a0 t297 t300 t301 _ A5.out).mono ?_); rintro e w6 ⟨v298, rfl, ho0, hb⟩; have n0_ := Aside0.mk (Kd.R_lower ho0 (below_size (bl_ HB.out))); have n1_ := Aside0.mk (below_step (bl_ HB.out) hb); clear HB; have HO299 := n0_; have HB := n1_; clear n0_ n1_; (try clear hb); (try clear hb2); (try clear hk); (try clear hi); (try clear ho0)) | ((with_reducible refine gate_dst (N := 4) rfl ?_); (try (refine gate_guard (by rfl) ?_; dsimp only)); refine box_event ?hg (N := 4) ?hd (cs := #[.int .i64 0, .int .i64 0]) (t := 26) ?hr ?_; (case hd => rfl); (case hg => rfl); (case hr => first | (go_simp; done) | (go_simp; rfl)); intro gb302 hg w7 hbox hb; have n0_ := Aside0.mk (Kd.R_below (by (with_reducible repeat (first | apply Kd.R_alloc | apply Kd.R_drewN | apply Kd.R_drew)); exact HO299.out) hb); have n1_ := Aside0.mk (below_step (bl_ HB.out) hb); have n2_ := Aside0.mk (hbox); have n3_ := Aside0.mk ((by rw [hg]; exact (below_size (bl_ HB.out)) : w.heap.size ≤ gb302)); have n4_ := Aside0.mk ((by rw [hg]; exact (below_size (bl_ HB.out)) : w.heap.size ≤ gb302)); clear HO299; clear HB; have HO299 := n0_; have HB := n1_; have BK302 := n2_; have GW302 := n3_; have GE302 := n4_; clear n0_ n1_ n2_ n3_ n4_; clear hb hbox hg; have hcz8_0 : w7.cell? ⟨gb302, 0, none⟩ = some (.int .i64 0) := (blk_cell BK302.out 0).trans rfl; have hcz8_1 : w7.cell? ⟨gb302, 1, none⟩ = some (.int .i64 0) := (blk_cell BK302.out 1).trans rfl; have hfz8_0 := blk_frozen BK302.out 0; have hfz8_1 := blk_frozen BK302.out 1)))
    go_loopg [5, 6] k (fun kq v5 v6 w' => ∃ (x5_1 : Int) (x6_1 : Int), v5 = .int .i64 x5_1 ∧ v6 = .int .i64 x6_1 ∧ Aside0 (salchowlaw09_LexerSteps.l0 kq a0 t297 x5_1 x6_1 t300 t301 = some r) ∧ Aside0 (kq ≤ k) ∧ Aside0 (Kd.R k46 46 w' w.heap.size (fun _ => True) v298 t297) ∧ Aside0 (w'.heap[gb302]? = some (.cells #[.int .i64 t300, .int .i64 t301] 26 (0, 0))) ∧ Aside0 (Below w.heap.size w w'))
    case atStart => exact ⟨(0), (0), (by first | rfl | (simp; done) | (simp [*]; done) | (simp <;> rfl)), (by first | rfl | (simp; done) | (simp [*]; done) | (simp <;> rfl)), H', ⟨Nat.le_refl _⟩, ⟨by (with_reducible repeat (first | apply Kd.R_alloc | apply Kd.R_drewN | apply Kd.R_drew)); exact Kd.R_mono (Kd.R_far (p := ⟨gb302, 1, none⟩) (Kd.R_far (p := ⟨gb302, 0, none⟩) (Kd.R_types HO299.out BK302.out (by decide)) (fun _ hk => hk.2) (.int .i64 t300)) (fun _ hk => hk.2) (.int .i64 t301)) (fun _ hk => trivial)⟩, ⟨by (with_reducible repeat (first | refine blk_drewN ?_ _ | refine blk_drew ?_ | refine blk_alloc ?_ _)); refine blk_put (cs := #[.int .i64 t300, .int .i64 0]) ?_ 1 _ rfl; (with_reducible repeat (first | refine blk_drewN ?_ _ | refine blk_drew ?_ | refine blk_alloc ?_ _)); refine blk_put (cs := #[.int .i64 0, .int .i64 0]) ?_ 0 _ rfl; (with_reducible repeat (first | refine blk_drewN ?_ _ | refine blk_drew ?_ | refine blk_alloc ?_ _)); exact BK302.out⟩, ⟨bl1_ HB.out GE302.out⟩⟩
    case round =>
      clear H'
      try clear c1
      try clear c2
      try clear c2b0
      try clear c2b1
      try clear p2
      try clear hcz8_0
      try clear hcz8_1
      try clear hfz8_0
      try clear hfz8_1
      obtain ⟨x5_1, x6_1, rfl, rfl, HA, HK1, HO_3, BK302, HB⟩ := hrel
      cases gk with
      | zero => exact absurd HA.out (by simp [salchowlaw09_LexerSteps.l0])
      | succ k1 =>
        have H := HA.out
        clear HA
        simp only [salchowlaw09_LexerSteps.l0] at H
        by_cases c9 : x6_1 ≤ (wrap64 ((a0.size : Int) + 1))
        · rw [if_pos c9] at H
          have c9b0 : decide (x6_1 ≤ (wrap64 ((a0.size : Int) + 1))) = true := decide_eq_true c9
          clear c9
          replace H := Option.bind_eq_some_iff.mp H
          obtain ⟨⟨t303, t304, t305, t306, t307, t308, t309⟩, A100, H⟩ := H
          replace H : (if (!(t308 == 0) || (!(t309 == 0))) = true then ((salchowlaw09_awake.f k1).bind fun t312 => (if t312 = true then (if (t308 == t300 && (t309 == t301)) = true then (some ((t297.length : Int) == 0)) else (none)) else (none))) else (if t307 < x5_1 then (salchowlaw09_LexerSteps.j1 k1 a0 t297 x6_1 t307 true t300 t301 t303 t304 t305 t306) else (salchowlaw09_LexerSteps.j1 k1 a0 t297 x6_1 t307 (decide (t307 > (a0.size : Int))) t300 t301 t303 t304 t305 t306))) = some r := H
          have A10 := Aside0.mk A100
          clear A100
          by_cases c11 : (!(t308 == 0) || (!(t309 == 0))) = true
          · rw [if_pos c11] at H
            have c11b0 : (!(t308 == 0) || (!(t309 == 0))) = true := c11
            clear c11
            replace H := Option.bind_eq_some_iff.mp H
            obtain ⟨t312, A120, H⟩ := H
            replace H : (if t312 = true then (if (t308 == t300 && (t309 == t301)) = true then (some ((t297.length : Int) == 0)) else (none)) else (none)) = some r := H
            have A12 := Aside0.mk A120
            clear A120
            by_cases c13 : t312 = true
            · subst c13
              have H1 : (if (t308 == t300 && (t309 == t301)) = true then (some ((t297.length : Int) == 0)) else (none)) = some r := by rw [if_pos rfl] at H; exact H
              clear H
              have H := H1
              clear H1
              by_cases c14 : (t308 == t300 && (t309 == t301)) = true
              · rw [if_pos c14] at H
                have c14b0 : (t308 == t300 && (t309 == t301)) = true := c14
                (try (have c14b1 : decide (t308 = t300 && (t309 == t301)) = true := by simpa using c14))
                (try (have c14b2 : (t308 == t300 && (t309 == t301)) = true := by simpa using c14))
                clear c14
                obtain rfl := Option.some.inj H
                go_wp2_with (first | (go_at_call 41; (with_reducible refine (lexer_Next.calls k1 a0 x5_1 t303 t304 t305 t306 t307 t308 t309 _ A10.out).mono ?_); rintro e w15 ⟨rfl, hb⟩; have n0_ := Aside0.mk (Kd.R_below (by (with_reducible repeat (first | apply Kd.R_alloc | apply Kd.R_drewN | apply Kd.R_drew)); exact HO_3.out) hb); have n1_ := Aside0.mk (blk_below (g := gb302) (o := .cells #[.int .i64 t300, .int .i64 t301] 26 (0, 0)) (bk_ BK302.out) hb); have n2_ := Aside0.mk (below_step (bl1_ HB.out GE302.out) hb); clear HO_3; clear BK302; clear HB; have HO_3 := n0_; have BK302 := n1_; have HB := n2_; clear n0_ n1_ n2_; (try clear hb); (try clear hb2); (try clear hk); (try clear hi)) | ((with_reducible refine gate_dst (N := 7) rfl ?_); (try (refine gate_guard (by rfl) ?_; dsimp only)); refine box_event ?hg (N := 7) ?hd (cs := #[.int .i64 0, .string (⟨#[]⟩ : ByteArray), .int .i64 0, .int .i64 0]) (t := 46) ?hr ?_; (case hd => rfl); (case hg => rfl); (case hr => first | (go_simp; done) | (go_simp; rfl)); intro gb310 hg w16 hbox hb; have n0_ := Aside0.mk (Kd.R_below (Kd.R_elderB (by (with_reducible repeat (first | apply Kd.R_alloc | apply Kd.R_drewN | apply Kd.R_drew)); exact HO_3.out) gb310 (Nat.le_of_eq hg.symm)) hb); have n1_ := Aside0.mk (blk_below (g := gb302) (o := .cells #[.int .i64 t300, .int .i64 t301] 26 (0, 0)) (bk_ BK302.out) hb); have n2_ := Aside0.mk (below_step (bl1_ HB.out GE302.out) hb); have n3_ := Aside0.mk (hbox); have n4_ := Aside0.mk ((by rw [hg]; exact (below_size (bl1_ HB.out GE302.out)) : w.heap.size ≤ gb310)); have n5_ := Aside0.mk ((by rw [hg]; exact (below_size (bl1_ HB.out GE302.out)) : w.heap.size ≤ gb310)); have n6_ := Aside0.mk ((by rw [hg]; exact Nat.ne_of_lt (blk_lt (g := gb302) (o := .cells #[.int .i64 t300, .int .i64 t301] 26 (0, 0)) (bk_ BK302.out)) : gb302 ≠ gb310)); have n7_ := Aside0.mk ((by rw [hg]; exact Nat.ne_of_gt (blk_lt (g := gb302) (o := .cells #[.int .i64 t300, .int .i64 t301] 26 (0, 0)) (bk_ BK302.out)) : gb310 ≠ gb302)); clear HO_3; clear BK302; clear HB; have HO_3 := n0_; have BK302 := n1_; have HB := n2_; have BK310 := n3_; have GW310 := n4_; have GE310 := n5_; have NB302_310 := n6_; have NB310_302 := n7_; clear n0_ n1_ n2_ n3_ n4_ n5_ n6_ n7_; clear hb hbox hg) | ((with_reducible refine gate_dst (N := 9) rfl ?_); (try (refine gate_guard (by rfl) ?_; dsimp only)); refine box_event ?hg (N := 9) ?hd (cs := #[.int .i64 0, .int .i64 0]) (t := 26) ?hr ?_; (case hd => rfl); (case hg => rfl); (case hr => first | (go_simp; done) | (go_simp; rfl)); intro gb311 hg w17 hbox hb; have n0_ := Aside0.mk (Kd.R_below (by (with_reducible repeat (first | apply Kd.R_alloc | apply Kd.R_drewN | apply Kd.R_drew)); exact HO_3.out) hb); have n1_ := Aside0.mk (blk_below (g := gb302) (o := .cells #[.int .i64 t300, .int .i64 t301] 26 (0, 0)) (bk_ BK302.out) hb); have n2_ := Aside0.mk (blk_below (g := gb310) (o := .cells #[.int .i64 0, .string (⟨#[]⟩ : ByteArray), .int .i64 0, .int .i64 0] 46 (0, 0)) (bk_ BK310.out) hb); have n3_ := Aside0.mk (below_step (bl2_ HB.out GE302.out GE310.out) hb); have n4_ := Aside0.mk (hbox); have n5_ := Aside0.mk ((by rw [hg]; exact (below_size (bl2_ HB.out GE302.out GE310.out)) : w.heap.size ≤ gb311)); have n6_ := Aside0.mk ((by rw [hg]; exact (below_size (bl2_ HB.out GE302.out GE310.out)) : w.heap.size ≤ gb311)); have n7_ := Aside0.mk ((by rw [hg]; exact Nat.ne_of_lt (blk_lt (g := gb302) (o := .cells #[.int .i64 t300, .int .i64 t301] 26 (0, 0)) (bk_ BK302.out)) : gb302 ≠ gb311)); have n8_ := Aside0.mk ((by rw [hg]; exact Nat.ne_of_gt (blk_lt (g := gb302) (o := .cells #[.int .i64 t300, .int .i64 t301] 26 (0, 0)) (bk_ BK302.out)) : gb311 ≠ gb302)); have n9_ := Aside0.mk ((by rw [hg]; exact Nat.ne_of_lt (blk_lt (g := gb310) (o := .cells #[.int .i64 0, .string (⟨#[]⟩ : ByteArray), .int .i64 0, .int .i64 0] 46 (0, 0)) (bk_ BK310.out)) : gb310 ≠ gb311)); have n10_ := Aside0.mk ((by rw [hg]; exact Nat.ne_of_gt (blk_lt (g := gb310) (o := .cells #[.int .i64 0, .string (⟨#[]⟩ : ByteArray), .int .i64 0, .int .i64 0] 46 (0, 0)) (bk_ BK310.out)) : gb311 ≠ gb310)); clear HO_3; clear BK302; clear BK310; clear HB; have HO_3 := n0_; have BK302 := n1_; have BK310 := n2_; have HB := n3_; have BK311 := n4_; have GW311 := n5_; have GE311 := n6_; have NB302_311 := n7_; have NB311_302 := n8_; have NB310_311 := n9_; have NB311_310 := n10_; clear n0_ n1_ n2_ n3_ n4_ n5_ n6_ n7_ n8_ n9_ n10_; clear hb hbox hg; have hnb18 := NB310_302.out; have hnc18 := NB302_310.out; have hnb19 := NB310_311.out; have hnc19 := NB311_310.out; have hcz20_0 : w17.cell? ⟨gb310, 0, none⟩ = some (.int .i64 0) := (blk_cell BK310.out 0).trans rfl; have hcz20_1 : w17.cell? ⟨gb310, 1, none⟩ = some (.string (⟨#[]⟩ : ByteArray)) := (blk_cell BK310.out 1).trans rfl; have hcz20_2 : w17.cell? ⟨gb310, 2, none⟩ = some (.int .i64 0) := (blk_cell BK310.out 2).trans rfl; have hcz20_3 : w17.cell? ⟨gb310, 3, none⟩ = some (.int .i64 0) := (blk_cell BK310.out 3).trans rfl; have hfz20_0 := blk_frozen BK310.out 0; have hfz20_1 := blk_frozen BK310.out 1; have hfz20_2 := blk_frozen BK310.out 2; have hfz20_3 := blk_frozen BK310.out 3; have hnb21 := NB311_302.out; have hnc21 := NB302_311.out; have hcz22_0 : w17.cell? ⟨gb311, 0, none⟩ = some (.int .i64 0) := (blk_cell BK311.out 0).trans rfl; have hcz22_1 : w17.cell? ⟨gb311, 1, none⟩ = some (.int .i64 0) := (blk_cell BK311.out 1).trans rfl; have hfz22_0 := blk_frozen BK311.out 0; have hfz22_1 := blk_frozen BK311.out 1) | (go_at_call 32; (with_reducible refine (salchowlaw09_awake.calls k1  true _ ?side1 A12.out).mono ?_); (case side1 => exact Gl.below hG (bl3_ HB.out GE302.out GE310.out GE311.out)); rintro e w23 ⟨rfl, hb⟩; have n0_ := Aside0.mk (Kd.R_below (by (with_reducible repeat (first | apply Kd.R_alloc | apply Kd.R_drewN | apply Kd.R_drew)); exact (Kd.R_mono (Kd.R_mono (Kd.R_far (p := ⟨gb311, 1, none⟩) (Kd.R_far (p := ⟨gb311, 0, none⟩) (Kd.R_far (p := ⟨gb310, 3, none⟩) (Kd.R_far (p := ⟨gb310, 2, none⟩) (Kd.R_far (p := ⟨gb310, 1, none⟩) (Kd.R_far (p := ⟨gb310, 0, none⟩) (Kd.R_types (Kd.R_mono HO_3.out (fun k_ hk => (⟨hk, hk.2⟩ : _ ∧ k_ ≠ gb310))) BK311.out (by decide)) (fun _ hk => hk.1.2) (.int .i64 t303)) (fun _ hk => hk.1.2) (.string t304)) (fun _ hk => hk.1.2) (.int .i64 t305)) (fun _ hk => hk.1.2) (.int .i64 t306)) (fun _ hk => hk.2) (.int .i64 t308)) (fun _ hk => hk.2) (.int .i64 t309)) (fun _ h_ => h_.1)) (fun _ h_ => h_.1))) hb); have n1_ := Aside0.mk (blk_below (g := gb302) (o := .cells #[.int .i64 t300, .int .i64 t301] 26 (0, 0)) (by (with_reducible repeat (first | refine blk_drewN ?_ _ | refine blk_drew ?_ | refine blk_alloc ?_ _)); refine blk_far ?_ NB302_311.out _; (with_reducible repeat (first | refine blk_drewN ?_ _ | refine blk_drew ?_ | refine blk_alloc ?_ _)); refine blk_far ?_ NB302_311.out _; (with_reducible repeat (first | refine blk_drewN ?_ _ | refine blk_drew ?_ | refine blk_alloc ?_ _)); refine blk_far ?_ NB302_310.out _; (with_reducible repeat (first | refine blk_drewN ?_ _ | refine blk_drew ?_ | refine blk_alloc ?_ _)); refine blk_far ?_ NB302_310.out _; (with_reducible repeat (first | refine blk_drewN ?_ _ | refine blk_drew ?_ | refine blk_alloc ?_ _)); refine blk_far ?_ NB302_310.out _; (with_reducible repeat (first | refine blk_drewN ?_ _ | refine blk_drew ?_ | refine blk_alloc ?_ _)); refine blk_far ?_ NB302_310.out _; (with_reducible repeat (first | refine blk_drewN ?_ _ | refine blk_drew ?_ | refine blk_alloc ?_ _)); exact BK302.out) hb); have n2_ := Aside0.mk (blk_below (g := gb310) (o := .cells #[.int .i64 t303, .string t304, .int .i64 t305, .int .i64 t306] 46 (0, 0)) (by (with_reducible repeat (first | refine blk_drewN ?_ _ | refine blk_drew ?_ | refine blk_alloc ?_ _)); refine blk_far ?_ NB310_311.out _; (with_reducible repeat (first | refine blk_drewN ?_ _ | refine blk_drew ?_ | refine blk_alloc ?_ _)); refine blk_far ?_ NB310_311.out _; (with_reducible repeat (first | refine blk_drewN ?_ _ | refine blk_drew ?_ | refine blk_alloc ?_ _)); refine blk_put (cs := #[.int .i64 t303, .string t304, .int .i64 t305, .int .i64 0]) ?_ 3 _ rfl; (with_reducible repeat (first | refine blk_drewN ?_ _ | refine blk_drew ?_ | refine blk_alloc ?_ _)); refine blk_put (cs := #[.int .i64 t303, .string t304, .int .i64 0, .int .i64 0]) ?_ 2 _ rfl; (with_reducible repeat (first | refine blk_drewN ?_ _ | refine blk_drew ?_ | refine blk_alloc ?_ _)); refine blk_put (cs := #[.int .i64 t303, .string (⟨#[]⟩ : ByteArray), .int .i64 0, .int .i64 0]) ?_ 1 _ rfl; (with_reducible repeat (first | refine blk_drewN ?_ _ | refine blk_drew ?_ | refine blk_alloc ?_ _)); refine blk_put (cs := #[.int .i64 0, .string (⟨#[]⟩ : ByteArray), .int .i64 0, .int .i64 0]) ?_ 0 _ rfl; (with_reducible repeat (first | refine blk_drewN ?_ _ | refine blk_drew ?_ | refine blk_alloc ?_ _)); exact BK310.out) hb); have n3_ := Aside0.mk (blk_below (g := gb311) (o := .cells #[.int .i64 t308, .int .i64 t309] 26 (0, 0)) (by (with_reducible repeat (first | refine blk_drewN ?_ _ | refine blk_drew ?_ | refine blk_alloc ?_ _)); refine blk_put (cs := #[.int .i64 t308, .int .i64 0]) ?_ 1 _ rfl; (with_reducible repeat (first | refine blk_drewN ?_ _ | refine blk_drew ?_ | refine blk_alloc ?_ _)); refine blk_put (cs := #[.int .i64 0, .int .i64 0]) ?_ 0 _ rfl; (with_reducible repeat (first | refine blk_drewN ?_ _ | refine blk_drew ?_ | refine blk_alloc ?_ _)); refine blk_far ?_ NB311_310.out _; (with_reducible repeat (first | refine blk_drewN ?_ _ | refine blk_drew ?_ | refine blk_alloc ?_ _)); refine blk_far ?_ NB311_310.out _; (with_reducible repeat (first | refine blk_drewN ?_ _ | refine blk_drew ?_ | refine blk_alloc ?_ _)); refine blk_far ?_ NB311_310.out _; (with_reducible repeat (first | refine blk_drewN ?_ _ | refine blk_drew ?_ | refine blk_alloc ?_ _)); refine blk_far ?_ NB311_310.out _; (with_reducible repeat (first | refine blk_drewN ?_ _ | refine blk_drew ?_ | refine blk_alloc ?_ _)); exact BK311.out) hb); have n4_ := Aside0.mk (below_step (bl3_ HB.out GE302.out GE310.out GE311.out) hb); clear HO_3; clear BK302; clear BK310; clear BK311; clear HB; have HO_3 := n0_; have BK302 := n1_; have BK310 := n2_; have BK311 := n3_; have HB := n4_; clear n0_ n1_ n2_ n3_ n4_; (try clear hb); (try clear hb2); (try clear hk); (try clear hi); have hcz24_0 : w23.cell? ⟨gb311, 0, none⟩ = some (.int .i64 t308) := (blk_cell BK311.out 0).trans rfl; have hcz24_1 : w23.cell? ⟨gb311, 1, none⟩ = some (.int .i64 t309) := (blk_cell BK311.out 1).trans rfl; have hfz24_0 := blk_frozen BK311.out 0; have hfz24_1 := blk_frozen BK311.out 1; have hcz25_0 : w23.cell? ⟨gb302, 0, none⟩ = some (.int .i64 t300) := (blk_cell BK302.out 0).trans rfl; have hcz25_1 : w23.cell? ⟨gb302, 1, none⟩ = some (.int .i64 t301) := (blk_cell BK302.out 1).trans rfl; have hfz25_0 := blk_frozen BK302.out 0; have hfz25_1 := blk_frozen BK302.out 1; obtain ⟨Ao26, co26, eo26⟩ := Kd.R_slice HO_3.out; subst eo26))
                repeat (go_quiet (first | (go_at_call 41; (with_reducible refine (lexer_Next.calls k1 a0 x5_1 t303 t304 t305 t306 t307 t308 t309 _ A10.out).mono ?_); rintro e w15 ⟨rfl, hb⟩; have n0_ := Aside0.mk (Kd.R_below (by (with_reducible repeat (first | apply Kd.R_alloc | apply Kd.R_drewN | apply Kd.R_drew)); exact HO_3.out) hb); have n1_ := Aside0.mk (blk_below (g := gb302) (o := .cells #[.int .i64 t300, .int .i64 t301] 26 (0, 0)) (bk_ BK302.out) hb); have n2_ := Aside0.mk (below_step (bl1_ HB.out GE302.out) hb); clear HO_3; clear BK302; clear HB; have HO_3 := n0_; have BK302 := n1_; have HB := n2_; clear n0_ n1_ n2_; (try clear hb); (try clear hb2); (try clear hk); (try clear hi)) | ((with_reducible refine gate_dst (N := 7) rfl ?_); (try (refine gate_guard (by rfl) ?_; dsimp only)); refine box_event ?hg (N := 7) ?hd (cs := #[.int .i64 0, .string (⟨#[]⟩ : ByteArray), .int .i64 0, .int .i64 0]) (t := 46) ?hr ?_; (case hd => rfl); (case hg => rfl); (case hr => first | (go_simp; done) | (go_simp; rfl)); intro gb310 hg w16 hbox hb; have n0_ := Aside0.mk (Kd.R_below (Kd.R_elderB (by (with_reducible repeat (first | apply Kd.R_alloc | apply Kd.R_drewN | apply Kd.R_drew)); exact HO_3.out) gb310 (Nat.le_of_eq hg.symm)) hb); have n1_ := Aside0.mk (blk_below (g := gb302) (o := .cells #[.int .i64 t300, .int .i64 t301] 26 (0, 0)) (bk_ BK302.out) hb); have n2_ := Aside0.mk (below_step (bl1_ HB.out GE302.out) hb); have n3_ := Aside0.mk (hbox); have n4_ := Aside0.mk ((by rw [hg]; exact (below_size (bl1_ HB.out GE302.out)) : w.heap.size ≤ gb310)); have n5_ := Aside0.mk ((by rw [hg]; exact (below_size (bl1_ HB.out GE302.out)) : w.heap.size ≤ gb310)); have n6_ := Aside0.mk ((by rw [hg]; exact Nat.ne_of_lt (blk_lt (g := gb302) (o := .cells #[.int .i64 t300, .int .i64 t301] 26 (0, 0)) (bk_ BK302.out)) : gb302 ≠ gb310)); have n7_ := Aside0.mk ((by rw [hg]; exact Nat.ne_of_gt (blk_lt (g := gb302) (o := .cells #[.int .i64 t300, .int .i64 t301] 26 (0, 0)) (bk_ BK302.out)) : gb310 ≠ gb302)); clear HO_3; clear BK302; clear HB; have HO_3 := n0_; have BK302 := n1_; have HB := n2_; have BK310 := n3_; have GW310 := n4_; have GE310 := n5_; have NB302_310 := n6_; have NB310_302 := n7_; clear n0_ n1_ n2_ n3_ n4_ n5_ n6_ n7_; clear hb hbox hg) | ((with_reducible refine gate_dst (N := 9) rfl ?_); (try (refine gate_guard (by rfl) ?_; dsimp only)); refine box_event ?hg (N := 9) ?hd (cs := #[.int .i64 0, .int .i64 0]) (t := 26) ?hr ?_; (case hd => rfl); (case hg => rfl); (case hr => first | (go_simp; done) | (go_simp; rfl)); intro gb311 hg w17 hbox hb; have n0_ := Aside0.mk (Kd.R_below (by (with_reducible repeat (first | apply Kd.R_alloc | apply Kd.R_drewN | apply Kd.R_drew)); exact HO_3.out) hb); have n1_ := Aside0.mk (blk_below (g := gb302) (o := .cells #[.int .i64 t300, .int .i64 t301] 26 (0, 0)) (bk_ BK302.out) hb); have n2_ := Aside0.mk (blk_below (g := gb310) (o := .cells #[.int .i64 0, .string (⟨#[]⟩ : ByteArray), .int .i64 0, .int .i64 0] 46 (0, 0)) (bk_ BK310.out) hb); have n3_ := Aside0.mk (below_step (bl2_ HB.out GE302.out GE310.out) hb); have n4_ := Aside0.mk (hbox); have n5_ := Aside0.mk ((by rw [hg]; exact (below_size (bl2_ HB.out GE302.out GE310.out)) : w.heap.size ≤ gb311)); have n6_ := Aside0.mk ((by rw [hg]; exact (below_size (bl2_ HB.out GE302.out GE310.out)) : w.heap.size ≤ gb311)); have n7_ := Aside0.mk ((by rw [hg]; exact Nat.ne_of_lt (blk_lt (g := gb302) (o := .cells #[.int .i64 t300, .int .i64 t301] 26 (0, 0)) (bk_ BK302.out)) : gb302 ≠ gb311)); have n8_ := Aside0.mk ((by rw [hg]; exact Nat.ne_of_gt (blk_lt (g := gb302) (o := .cells #[.int .i64 t300, .int .i64 t301] 26 (0, 0)) (bk_ BK302.out)) : gb311 ≠ gb302)); have n9_ := Aside0.mk ((by rw [hg]; exact Nat.ne_of_lt (blk_lt (g := gb310) (o := .cells #[.int .i64 0, .string (⟨#[]⟩ : ByteArray), .int .i64 0, .int .i64 0] 46 (0, 0)) (bk_ BK310.out)) : gb310 ≠ gb311)); have n10_ := Aside0.mk ((by rw [hg]; exact Nat.ne_of_gt (blk_lt (g := gb310) (o := .cells #[.int .i64 0, .string (⟨#[]⟩ : ByteArray), .int .i64 0, .int .i64 0] 46 (0, 0)) (bk_ BK310.out)) : gb311 ≠ gb310)); clear HO_3; clear BK302; clear BK310; clear HB; have HO_3 := n0_; have BK302 := n1_; have BK310 := n2_; have HB := n3_; have BK311 := n4_; have GW311 := n5_; have GE311 := n6_; have NB302_311 := n7_; have NB311_302 := n8_; have NB310_311 := n9_; have NB311_310 := n10_; clear n0_ n1_ n2_ n3_ n4_ n5_ n6_ n7_ n8_ n9_ n10_; clear hb hbox hg; have hnb18 := NB310_302.out; have hnc18 := NB302_310.out; have hnb19 := NB310_311.out; have hnc19 := NB311_310.out; have hcz20_0 : w17.cell? ⟨gb310, 0, none⟩ = some (.int .i64 0) := (blk_cell BK310.out 0).trans rfl; have hcz20_1 : w17.cell? ⟨gb310, 1, none⟩ = some (.string (⟨#[]⟩ : ByteArray)) := (blk_cell BK310.out 1).trans rfl; have hcz20_2 : w17.cell? ⟨gb310, 2, none⟩ = some (.int .i64 0) := (blk_cell BK310.out 2).trans rfl; have hcz20_3 : w17.cell? ⟨gb310, 3, none⟩ = some (.int .i64 0) := (blk_cell BK310.out 3).trans rfl; have hfz20_0 := blk_frozen BK310.out 0; have hfz20_1 := blk_frozen BK310.out 1; have hfz20_2 := blk_frozen BK310.out 2; have hfz20_3 := blk_frozen BK310.out 3; have hnb21 := NB311_302.out; have hnc21 := NB302_311.out; have hcz22_0 : w17.cell? ⟨gb311, 0, none⟩ = some (.int .i64 0) := (blk_cell BK311.out 0).trans rfl; have hcz22_1 : w17.cell? ⟨gb311, 1, none⟩ = some (.int .i64 0) := (blk_cell BK311.out 1).trans rfl; have hfz22_0 := blk_frozen BK311.out 0; have hfz22_1 := blk_frozen BK311.out 1) | (go_at_call 32; (with_reducible refine (salchowlaw09_awake.calls k1  true _ ?side1 A12.out).mono ?_); (case side1 => exact Gl.below hG (bl3_ HB.out GE302.out GE310.out GE311.out)); rintro e w23 ⟨rfl, hb⟩; have n0_ := Aside0.mk (Kd.R_below (by (with_reducible repeat (first | apply Kd.R_alloc | apply Kd.R_drewN | apply Kd.R_drew)); exact (Kd.R_mono (Kd.R_mono (Kd.R_far (p := ⟨gb311, 1, none⟩) (Kd.R_far (p := ⟨gb311, 0, none⟩) (Kd.R_far (p := ⟨gb310, 3, none⟩) (Kd.R_far (p := ⟨gb310, 2, none⟩) (Kd.R_far (p := ⟨gb310, 1, none⟩) (Kd.R_far (p := ⟨gb310, 0, none⟩) (Kd.R_types (Kd.R_mono HO_3.out (fun k_ hk => (⟨hk, hk.2⟩ : _ ∧ k_ ≠ gb310))) BK311.out (by decide)) (fun _ hk => hk.1.2) (.int .i64 t303)) (fun _ hk => hk.1.2) (.string t304)) (fun _ hk => hk.1.2) (.int .i64 t305)) (fun _ hk => hk.1.2) (.int .i64 t306)) (fun _ hk => hk.2) (.int .i64 t308)) (fun _ hk => hk.2) (.int .i64 t309)) (fun _ h_ => h_.1)) (fun _ h_ => h_.1))) hb); have n1_ := Aside0.mk (blk_below (g := gb302) (o := .cells #[.int .i64 t300, .int .i64 t301] 26 (0, 0)) (by (with_reducible repeat (first | refine blk_drewN ?_ _ | refine blk_drew ?_ | refine blk_alloc ?_ _)); refine blk_far ?_ NB302_311.out _; (with_reducible repeat (first | refine blk_drewN ?_ _ | refine blk_drew ?_ | refine blk_alloc ?_ _)); refine blk_far ?_ NB302_311.out _; (with_reducible repeat (first | refine blk_drewN ?_ _ | refine blk_drew ?_ | refine blk_alloc ?_ _)); refine blk_far ?_ NB302_310.out _; (with_reducible repeat (first | refine blk_drewN ?_ _ | refine blk_drew ?_ | refine blk_alloc ?_ _)); refine blk_far ?_ NB302_310.out _; (with_reducible repeat (first | refine blk_drewN ?_ _ | refine blk_drew ?_ | refine blk_alloc ?_ _)); refine blk_far ?_ NB302_310.out _; (with_reducible repeat (first | refine blk_drewN ?_ _ | refine blk_drew ?_ | refine blk_alloc ?_ _)); refine blk_far ?_ NB302_310.out _; (with_reducible repeat (first | refine blk_drewN ?_ _ | refine blk_drew ?_ | refine blk_alloc ?_ _)); exact BK302.out) hb); have n2_ := Aside0.mk (blk_below (g := gb310) (o := .cells #[.int .i64 t303, .string t304, .int .i64 t305, .int .i64 t306] 46 (0, 0)) (by (with_reducible repeat (first | refine blk_drewN ?_ _ | refine blk_drew ?_ | refine blk_alloc ?_ _)); refine blk_far ?_ NB310_311.out _; (with_reducible repeat (first | refine blk_drewN ?_ _ | refine blk_drew ?_ | refine blk_alloc ?_ _)); refine blk_far ?_ NB310_311.out _; (with_reducible repeat (first | refine blk_drewN ?_ _ | refine blk_drew ?_ | refine blk_alloc ?_ _)); refine blk_put (cs := #[.int .i64 t303, .string t304, .int .i64 t305, .int .i64 0]) ?_ 3 _ rfl; (with_reducible repeat (first | refine blk_drewN ?_ _ | refine blk_drew ?_ | refine blk_alloc ?_ _)); refine blk_put (cs := #[.int .i64 t303, .string t304, .int .i64 0, .int .i64 0]) ?_ 2 _ rfl; (with_reducible repeat (first | refine blk_drewN ?_ _ | refine blk_drew ?_ | refine blk_alloc ?_ _)); refine blk_put (cs := #[.int .i64 t303, .string (⟨#[]⟩ : ByteArray), .int .i64 0, .int .i64 0]) ?_ 1 _ rfl; (with_reducible repeat (first | refine blk_drewN ?_ _ | refine blk_drew ?_ | refine blk_alloc ?_ _)); refine blk_put (cs := #[.int .i64 0, .string (⟨#[]⟩ : ByteArray), .int .i64 0, .int .i64 0]) ?_ 0 _ rfl; (with_reducible repeat (first | refine blk_drewN ?_ _ | refine blk_drew ?_ | refine blk_alloc ?_ _)); exact BK310.out) hb); have n3_ := Aside0.mk (blk_below (g := gb311) (o := .cells #[.int .i64 t308, .int .i64 t309] 26 (0, 0)) (by (with_reducible repeat (first | refine blk_drewN ?_ _ | refine blk_drew ?_ | refine blk_alloc ?_ _)); refine blk_put (cs := #[.int .i64 t308, .int .i64 0]) ?_ 1 _ rfl; (with_reducible repeat (first | refine blk_drewN ?_ _ | refine blk_drew ?_ | refine blk_alloc ?_ _)); refine blk_put (cs := #[.int .i64 0, .int .i64 0]) ?_ 0 _ rfl; (with_reducible repeat (first | refine blk_drewN ?_ _ | refine blk_drew ?_ | refine blk_alloc ?_ _)); refine blk_far ?_ NB311_310.out _; (with_reducible repeat (first | refine blk_drewN ?_ _ | refine blk_drew ?_ | refine blk_alloc ?_ _)); refine blk_far ?_ NB311_310.out _; (with_reducible repeat (first | refine blk_drewN ?_ _ | refine blk_drew ?_ | refine blk_alloc ?_ _)); refine blk_far ?_ NB311_310.out _; (with_reducible repeat (first | refine blk_drewN ?_ _ | refine blk_drew ?_ | refine blk_alloc ?_ _)); refine blk_far ?_ NB311_310.out _; (with_reducible repeat (first | refine blk_drewN ?_ _ | refine blk_drew ?_ | refine blk_alloc ?_ _)); exact BK311.out) hb); have n4_ := Aside0.mk (below_step (bl3_ HB.out GE302.out GE310.out GE311.out) hb); clear HO_3; clear BK302; clear BK310; clear BK311; clear HB; have HO_3 := n0_; have BK302 := n1_; have BK310 := n2_; have BK311 := n3_; have HB := n4_; clear n0_ n1_ n2_ n3_ n4_; (try clear hb); (try clear hb2); (try clear hk); (try clear hi); have hcz24_0 : w23.cell? ⟨gb311, 0, none⟩ = some (.int .i64 t308) := (blk_cell BK311.out 0).trans rfl; have hcz24_1 : w23.cell? ⟨gb311, 1, none⟩ = some (.int .i64 t309) := (blk_cell BK311.out 1).trans rfl; have hfz24_0 := blk_frozen BK311.out 0; have hfz24_1 := blk_frozen BK311.out 1; have hcz25_0 : w23.cell? ⟨gb302, 0, none⟩ = some (.int .i64 t300) := (blk_cell BK302.out 0).trans rfl; have hcz25_1 : w23.cell? ⟨gb302, 1, none⟩ = some (.int .i64 t301) := (blk_cell BK302.out 1).trans rfl; have hfz25_0 := blk_frozen BK302.out 0; have hfz25_1 := blk_frozen BK302.out 1; obtain ⟨Ao26, co26, eo26⟩ := Kd.R_slice HO_3.out; subst eo26)); try go_wp2_with (first | (go_at_call 41; (with_reducible refine (lexer_Next.calls k1 a0 x5_1 t303 t304 t305 t306 t307 t308 t309 _ A10.out).mono ?_); rintro e w15 ⟨rfl, hb⟩; have n0_ := Aside0.mk (Kd.R_below (by (with_reducible repeat (first | apply Kd.R_alloc | apply Kd.R_drewN | apply Kd.R_drew)); exact HO_3.out) hb); have n1_ := Aside0.mk (blk_below (g := gb302) (o := .cells #[.int .i64 t300, .int .i64 t301] 26 (0, 0)) (bk_ BK302.out) hb); have n2_ := Aside0.mk (below_step (bl1_ HB.out GE302.out) hb); clear HO_3; clear BK302; clear HB; have HO_3 := n0_; have BK302 := n1_; have HB := n2_; clear n0_ n1_ n2_; (try clear hb); (try clear hb2); (try clear hk); (try clear hi)) | ((with_reducible refine gate_dst (N := 7) rfl ?_); (try (refine gate_guard (by rfl) ?_; dsimp only)); refine box_event ?hg (N := 7) ?hd (cs := #[.int .i64 0, .string (⟨#[]⟩ : ByteArray), .int .i64 0, .int .i64 0]) (t := 46) ?hr ?_; (case hd => rfl); (case hg => rfl); (case hr => first | (go_simp; done) | (go_simp; rfl)); intro gb310 hg w16 hbox hb; have n0_ := Aside0.mk (Kd.R_below (Kd.R_elderB (by (with_reducible repeat (first | apply Kd.R_alloc | apply Kd.R_drewN | apply Kd.R_drew)); exact HO_3.out) gb310 (Nat.le_of_eq hg.symm)) hb); have n1_ := Aside0.mk (blk_below (g := gb302) (o := .cells #[.int .i64 t300, .int .i64 t301] 26 (0, 0)) (bk_ BK302.out) hb); have n2_ := Aside0.mk (below_step (bl1_ HB.out GE302.out) hb); have n3_ := Aside0.mk (hbox); have n4_ := Aside0.mk ((by rw [hg]; exact (below_size (bl1_ HB.out GE302.out)) : w.heap.size ≤ gb310)); have n5_ := Aside0.mk ((by rw [hg]; exact (below_size (bl1_ HB.out GE302.out)) : w.heap.size ≤ gb310)); have n6_ := Aside0.mk ((by rw [hg]; exact Nat.ne_of_lt (blk_lt (g := gb302) (o := .cells #[.int .i64 t300, .int .i64 t301] 26 (0, 0)) (bk_ BK302.out)) : gb302 ≠ gb310)); have n7_ := Aside0.mk ((by rw [hg]; exact Nat.ne_of_gt (blk_lt (g := gb302) (o := .cells #[.int .i64 t300, .int .i64 t301] 26 (0, 0)) (bk_ BK302.out)) : gb310 ≠ gb302)); clear HO_3; clear BK302; clear HB; have HO_3 := n0_; have BK302 := n1_; have HB := n2_; have BK310 := n3_; have GW310 := n4_; have GE310 := n5_; have NB302_310 := n6_; have NB310_302 := n7_; clear n0_ n1_ n2_ n3_ n4_ n5_ n6_ n7_; clear hb hbox hg) | ((with_reducible refine gate_dst (N := 9) rfl ?_); (try (refine gate_guard (by rfl) ?_; dsimp only)); refine box_event ?hg (N := 9) ?hd (cs := #[.int .i64 0, .int .i64 0]) (t := 26) ?hr ?_; (case hd => rfl); (case hg => rfl); (case hr => first | (go_simp; done) | (go_simp; rfl)); intro gb311 hg w17 hbox hb; have n0_ := Aside0.mk (Kd.R_below (by (with_reducible repeat (first | apply Kd.R_alloc | apply Kd.R_drewN | apply Kd.R_drew)); exact HO_3.out) hb); have n1_ := Aside0.mk (blk_below (g := gb302) (o := .cells #[.int .i64 t300, .int .i64 t301] 26 (0, 0)) (bk_ BK302.out) hb); have n2_ := Aside0.mk (blk_below (g := gb310) (o := .cells #[.int .i64 0, .string (⟨#[]⟩ : ByteArray), .int .i64 0, .int .i64 0] 46 (0, 0)) (bk_ BK310.out) hb); have n3_ := Aside0.mk (below_step (bl2_ HB.out GE302.out GE310.out) hb); have n4_ := Aside0.mk (hbox); have n5_ := Aside0.mk ((by rw [hg]; exact (below_size (bl2_ HB.out GE302.out GE310.out)) : w.heap.size ≤ gb311)); have n6_ := Aside0.mk ((by rw [hg]; exact (below_size (bl2_ HB.out GE302.out GE310.out)) : w.heap.size ≤ gb311)); have n7_ := Aside0.mk ((by rw [hg]; exact Nat.ne_of_lt (blk_lt (g := gb302) (o := .cells #[.int .i64 t300, .int .i64 t301] 26 (0, 0)) (bk_ BK302.out)) : gb302 ≠ gb311)); have n8_ := Aside0.mk ((by rw [hg]; exact Nat.ne_of_gt (blk_lt (g := gb302) (o := .cells #[.int .i64 t300, .int .i64 t301] 26 (0, 0)) (bk_ BK302.out)) : gb311 ≠ gb302)); have n9_ := Aside0.mk ((by rw [hg]; exact Nat.ne_of_lt (blk_lt (g := gb310) (o := .cells #[.int .i64 0, .string (⟨#[]⟩ : ByteArray), .int .i64 0, .int .i64 0] 46 (0, 0)) (bk_ BK310.out)) : gb310 ≠ gb311)); have n10_ := Aside0.mk ((by rw [hg]; exact Nat.ne_of_gt (blk_lt (g := gb310) (o := .cells #[.int .i64 0, .string (⟨#[]⟩ : ByteArray), .int .i64 0, .int .i64 0] 46 (0, 0)) (bk_ BK310.out)) : gb311 ≠ gb310)); clear HO_3; clear BK302; clear BK310; clear HB; have HO_3 := n0_; have BK302 := n1_; have BK310 := n2_; have HB := n3_; have BK311 := n4_; have GW311 := n5_; have GE311 := n6_; have NB302_311 := n7_; have NB311_302 := n8_; have NB310_311 := n9_; have NB311_310 := n10_; clear n0_ n1_ n2_ n3_ n4_ n5_ n6_ n7_ n8_ n9_ n10_; clear hb hbox hg; have hnb18 := NB310_302.out; have hnc18 := NB302_310.out; have hnb19 := NB310_311.out; have hnc19 := NB311_310.out; have hcz20_0 : w17.cell? ⟨gb310, 0, none⟩ = some (.int .i64 0) := (blk_cell BK310.out 0).trans rfl; have hcz20_1 : w17.cell? ⟨gb310, 1, none⟩ = some (.string (⟨#[]⟩ : ByteArray)) := (blk_cell BK310.out 1).trans rfl; have hcz20_2 : w17.cell? ⟨gb310, 2, none⟩ = some (.int .i64 0) := (blk_cell BK310.out 2).trans rfl; have hcz20_3 : w17.cell? ⟨gb310, 3, none⟩ = some (.int .i64 0) := (blk_cell BK310.out 3).trans rfl; have hfz20_0 := blk_frozen BK310.out 0; have hfz20_1 := blk_frozen BK310.out 1; have hfz20_2 := blk_frozen BK310.out 2; have hfz20_3 := blk_frozen BK310.out 3; have hnb21 := NB311_302.out; have hnc21 := NB302_311.out; have hcz22_0 : w17.cell? ⟨gb311, 0, none⟩ = some (.int .i64 0) := (blk_cell BK311.out 0).trans rfl; have hcz22_1 : w17.cell? ⟨gb311, 1, none⟩ = some (.int .i64 0) := (blk_cell BK311.out 1).trans rfl; have hfz22_0 := blk_frozen BK311.out 0; have hfz22_1 := blk_frozen BK311.out 1) | (go_at_call 32; (with_reducible refine (salchowlaw09_awake.calls k1  true _ ?side1 A12.out).mono ?_); (case side1 => exact Gl.below hG (bl3_ HB.out GE302.out GE310.out GE311.out)); rintro e w23 ⟨rfl, hb⟩; have n0_ := Aside0.mk (Kd.R_below (by (with_reducible repeat (first | apply Kd.R_alloc | apply Kd.R_drewN | apply Kd.R_drew)); exact (Kd.R_mono (Kd.R_mono (Kd.R_far (p := ⟨gb311, 1, none⟩) (Kd.R_far (p := ⟨gb311, 0, none⟩) (Kd.R_far (p := ⟨gb310, 3, none⟩) (Kd.R_far (p := ⟨gb310, 2, none⟩) (Kd.R_far (p := ⟨gb310, 1, none⟩) (Kd.R_far (p := ⟨gb310, 0, none⟩) (Kd.R_types (Kd.R_mono HO_3.out (fun k_ hk => (⟨hk, hk.2⟩ : _ ∧ k_ ≠ gb310))) BK311.out (by decide)) (fun _ hk => hk.1.2) (.int .i64 t303)) (fun _ hk => hk.1.2) (.string t304)) (fun _ hk => hk.1.2) (.int .i64 t305)) (fun _ hk => hk.1.2) (.int .i64 t306)) (fun _ hk => hk.2) (.int .i64 t308)) (fun _ hk => hk.2) (.int .i64 t309)) (fun _ h_ => h_.1)) (fun _ h_ => h_.1))) hb); have n1_ := Aside0.mk (blk_below (g := gb302) (o := .cells #[.int .i64 t300, .int .i64 t301] 26 (0, 0)) (by (with_reducible repeat (first | refine blk_drewN ?_ _ | refine blk_drew ?_ | refine blk_alloc ?_ _)); refine blk_far ?_ NB302_311.out _; (with_reducible repeat (first | refine blk_drewN ?_ _ | refine blk_drew ?_ | refine blk_alloc ?_ _)); refine blk_far ?_ NB302_311.out _; (with_reducible repeat (first | refine blk_drewN ?_ _ | refine blk_drew ?_ | refine blk_alloc ?_ _)); refine blk_far ?_ NB302_310.out _; (with_reducible repeat (first | refine blk_drewN ?_ _ | refine blk_drew ?_ | refine blk_alloc ?_ _)); refine blk_far ?_ NB302_310.out _; (with_reducible repeat (first | refine blk_drewN ?_ _ | refine blk_drew ?_ | refine blk_alloc ?_ _)); refine blk_far ?_ NB302_310.out _; (with_reducible repeat (first | refine blk_drewN ?_ _ | refine blk_drew ?_ | refine blk_alloc ?_ _)); refine blk_far ?_ NB302_310.out _; (with_reducible repeat (first | refine blk_drewN ?_ _ | refine blk_drew ?_ | refine blk_alloc ?_ _)); exact BK302.out) hb); have n2_ := Aside0.mk (blk_below (g := gb310) (o := .cells #[.int .i64 t303, .string t304, .int .i64 t305, .int .i64 t306] 46 (0, 0)) (by (with_reducible repeat (first | refine blk_drewN ?_ _ | refine blk_drew ?_ | refine blk_alloc ?_ _)); refine blk_far ?_ NB310_311.out _; (with_reducible repeat (first | refine blk_drewN ?_ _ | refine blk_drew ?_ | refine blk_alloc ?_ _)); refine blk_far ?_ NB310_311.out _; (with_reducible repeat (first | refine blk_drewN ?_ _ | refine blk_drew ?_ | refine blk_alloc ?_ _)); refine blk_put (cs := #[.int .i64 t303, .string t304, .int .i64 t305, .int .i64 0]) ?_ 3 _ rfl; (with_reducible repeat (first | refine blk_drewN ?_ _ | refine blk_drew ?_ | refine blk_alloc ?_ _)); refine blk_put (cs := #[.int .i64 t303, .string t304, .int .i64 0, .int .i64 0]) ?_ 2 _ rfl; (with_reducible repeat (first | refine blk_drewN ?_ _ | refine blk_drew ?_ | refine blk_alloc ?_ _)); refine blk_put (cs := #[.int .i64 t303, .string (⟨#[]⟩ : ByteArray), .int .i64 0, .int .i64 0]) ?_ 1 _ rfl; (with_reducible repeat (first | refine blk_drewN ?_ _ | refine blk_drew ?_ | refine blk_alloc ?_ _)); refine blk_put (cs := #[.int .i64 0, .string (⟨#[]⟩ : ByteArray), .int .i64 0, .int .i64 0]) ?_ 0 _ rfl; (with_reducible repeat (first | refine blk_drewN ?_ _ | refine blk_drew ?_ | refine blk_alloc ?_ _)); exact BK310.out) hb); have n3_ := Aside0.mk (blk_below (g := gb311) (o := .cells #[.int .i64 t308, .int .i64 t309] 26 (0, 0)) (by (with_reducible repeat (first | refine blk_drewN ?_ _ | refine blk_drew ?_ | refine blk_alloc ?_ _)); refine blk_put (cs := #[.int .i64 t308, .int .i64 0]) ?_ 1 _ rfl; (with_reducible repeat (first | refine blk_drewN ?_ _ | refine blk_drew ?_ | refine blk_alloc ?_ _)); refine blk_put (cs := #[.int .i64 0, .int .i64 0]) ?_ 0 _ rfl; (with_reducible repeat (first | refine blk_drewN ?_ _ | refine blk_drew ?_ | refine blk_alloc ?_ _)); refine blk_far ?_ NB311_310.out _; (with_reducible repeat (first | refine blk_drewN ?_ _ | refine blk_drew ?_ | refine blk_alloc ?_ _)); refine blk_far ?_ NB311_310.out _; (with_reducible repeat (first | refine blk_drewN ?_ _ | refine blk_drew ?_ | refine blk_alloc ?_ _)); refine blk_far ?_ NB311_310.out _; (with_reducible repeat (first | refine blk_drewN ?_ _ | refine blk_drew ?_ | refine blk_alloc ?_ _)); refine blk_far ?_ NB311_310.out _; (with_reducible repeat (first | refine blk_drewN ?_ _ | refine blk_drew ?_ | refine blk_alloc ?_ _)); exact BK311.out) hb); have n4_ := Aside0.mk (below_step (bl3_ HB.out GE302.out GE310.out GE311.out) hb); clear HO_3; clear BK302; clear BK310; clear BK311; clear HB; have HO_3 := n0_; have BK302 := n1_; have BK310 := n2_; have BK311 := n3_; have HB := n4_; clear n0_ n1_ n2_ n3_ n4_; (try clear hb); (try clear hb2); (try clear hk); (try clear hi); have hcz24_0 : w23.cell? ⟨gb311, 0, none⟩ = some (.int .i64 t308) := (blk_cell BK311.out 0).trans rfl; have hcz24_1 : w23.cell? ⟨gb311, 1, none⟩ = some (.int .i64 t309) := (blk_cell BK311.out 1).trans rfl; have hfz24_0 := blk_frozen BK311.out 0; have hfz24_1 := blk_frozen BK311.out 1; have hcz25_0 : w23.cell? ⟨gb302, 0, none⟩ = some (.int .i64 t300) := (blk_cell BK302.out 0).trans rfl; have hcz25_1 : w23.cell? ⟨gb302, 1, none⟩ = some (.int .i64 t301) := (blk_cell BK302.out 1).trans rfl; have hfz25_0 := blk_frozen BK302.out 0; have hfz25_1 := blk_frozen BK302.out 1; obtain ⟨Ao26, co26, eo26⟩ := Kd.R_slice HO_3.out; subst eo26)))
                go_ret
                exact ⟨er_, bl3_ HB.out GE302.out GE310.out GE311.out⟩
              · rw [if_neg c14] at H
                exact absurd H (by simp)
            · replace c13 := Bool.eq_false_iff.mpr c13
              subst c13
              have H1 : (none) = some r := by rw [if_neg (show ¬ (false = true) by decide)] at H; exact H
              clear H
              have H := H1
              clear H1
              exact absurd H (by simp)
          · rw [if_neg c11] at H
            have c11b0 : (!(t308 == 0) || (!(t309 == 0))) = false := by simpa using c11
            clear c11
            have HC27 := Aside0.mk H
            clear H
            go_upto_region 11 with (first | (go_at_call 41; (with_reducible refine (lexer_Next.calls k1 a0 x5_1 t303 t304 t305 t306 t307 t308 t309 _ A10.out).mono ?_); rintro e w28 ⟨rfl, hb⟩; have n0_ := Aside0.mk (Kd.R_below (by (with_reducible repeat (first | apply Kd.R_alloc | apply Kd.R_drewN | apply Kd.R_drew)); exact HO_3.out) hb); have n1_ := Aside0.mk (blk_below (g := gb302) (o := .cells #[.int .i64 t300, .int .i64 t301] 26 (0, 0)) (bk_ BK302.out) hb); have n2_ := Aside0.mk (below_step (bl1_ HB.out GE302.out) hb); clear HO_3; clear BK302; clear HB; have HO_3 := n0_; have BK302 := n1_; have HB := n2_; clear n0_ n1_ n2_; (try clear hb); (try clear hb2); (try clear hk); (try clear hi)) | ((with_reducible refine gate_dst (N := 7) rfl ?_); (try (refine gate_guard (by rfl) ?_; dsimp only)); refine box_event ?hg (N := 7) ?hd (cs := #[.int .i64 0, .string (⟨#[]⟩ : ByteArray), .int .i64 0, .int .i64 0]) (t := 46) ?hr ?_; (case hd => rfl); (case hg => rfl); (case hr => first | (go_simp; done) | (go_simp; rfl)); intro gb310 hg w29 hbox hb; have n0_ := Aside0.mk (Kd.R_below (Kd.R_elderB (by (with_reducible repeat (first | apply Kd.R_alloc | apply Kd.R_drewN | apply Kd.R_drew)); exact HO_3.out) gb310 (Nat.le_of_eq hg.symm)) hb); have n1_ := Aside0.mk (blk_below (g := gb302) (o := .cells #[.int .i64 t300, .int .i64 t301] 26 (0, 0)) (bk_ BK302.out) hb); have n2_ := Aside0.mk (below_step (bl1_ HB.out GE302.out) hb); have n3_ := Aside0.mk (hbox); have n4_ := Aside0.mk ((by rw [hg]; exact (below_size (bl1_ HB.out GE302.out)) : w.heap.size ≤ gb310)); have n5_ := Aside0.mk ((by rw [hg]; exact (below_size (bl1_ HB.out GE302.out)) : w.heap.size ≤ gb310)); have n6_ := Aside0.mk ((by rw [hg]; exact Nat.ne_of_lt (blk_lt (g := gb302) (o := .cells #[.int .i64 t300, .int .i64 t301] 26 (0, 0)) (bk_ BK302.out)) : gb302 ≠ gb310)); have n7_ := Aside0.mk ((by rw [hg]; exact Nat.ne_of_gt (blk_lt (g := gb302) (o := .cells #[.int .i64 t300, .int .i64 t301] 26 (0, 0)) (bk_ BK302.out)) : gb310 ≠ gb302)); clear HO_3; clear BK302; clear HB; have HO_3 := n0_; have BK302 := n1_; have HB := n2_; have BK310 := n3_; have GW310 := n4_; have GE310 := n5_; have NB302_310 := n6_; have NB310_302 := n7_; clear n0_ n1_ n2_ n3_ n4_ n5_ n6_ n7_; clear hb hbox hg) | ((with_reducible refine gate_dst (N := 9) rfl ?_); (try (refine gate_guard (by rfl) ?_; dsimp only)); refine box_event ?hg (N := 9) ?hd (cs := #[.int .i64 0, .int .i64 0]) (t := 26) ?hr ?_; (case hd => rfl); (case hg => rfl); (case hr => first | (go_simp; done) | (go_simp; rfl)); intro gb311 hg w30 hbox hb; have n0_ := Aside0.mk (Kd.R_below (by (with_reducible repeat (first | apply Kd.R_alloc | apply Kd.R_drewN | apply Kd.R_drew)); exact HO_3.out) hb); have n1_ := Aside0.mk (blk_below (g := gb302) (o := .cells #[.int .i64 t300, .int .i64 t301] 26 (0, 0)) (bk_ BK302.out) hb); have n2_ := Aside0.mk (blk_below (g := gb310) (o := .cells #[.int .i64 0, .string (⟨#[]⟩ : ByteArray), .int .i64 0, .int .i64 0] 46 (0, 0)) (bk_ BK310.out) hb); have n3_ := Aside0.mk (below_step (bl2_ HB.out GE302.out GE310.out) hb); have n4_ := Aside0.mk (hbox); have n5_ := Aside0.mk ((by rw [hg]; exact (below_size (bl2_ HB.out GE302.out GE310.out)) : w.heap.size ≤ gb311)); have n6_ := Aside0.mk ((by rw [hg]; exact (below_size (bl2_ HB.out GE302.out GE310.out)) : w.heap.size ≤ gb311)); have n7_ := Aside0.mk ((by rw [hg]; exact Nat.ne_of_lt (blk_lt (g := gb302) (o := .cells #[.int .i64 t300, .int .i64 t301] 26 (0, 0)) (bk_ BK302.out)) : gb302 ≠ gb311)); have n8_ := Aside0.mk ((by rw [hg]; exact Nat.ne_of_gt (blk_lt (g := gb302) (o := .cells #[.int .i64 t300, .int .i64 t301] 26 (0, 0)) (bk_ BK302.out)) : gb311 ≠ gb302)); have n9_ := Aside0.mk ((by rw [hg]; exact Nat.ne_of_lt (blk_lt (g := gb310) (o := .cells #[.int .i64 0, .string (⟨#[]⟩ : ByteArray), .int .i64 0, .int .i64 0] 46 (0, 0)) (bk_ BK310.out)) : gb310 ≠ gb311)); have n10_ := Aside0.mk ((by rw [hg]; exact Nat.ne_of_gt (blk_lt (g := gb310) (o := .cells #[.int .i64 0, .string (⟨#[]⟩ : ByteArray), .int .i64 0, .int .i64 0] 46 (0, 0)) (bk_ BK310.out)) : gb311 ≠ gb310)); clear HO_3; clear BK302; clear BK310; clear HB; have HO_3 := n0_; have BK302 := n1_; have BK310 := n2_; have HB := n3_; have BK311 := n4_; have GW311 := n5_; have GE311 := n6_; have NB302_311 := n7_; have NB311_302 := n8_; have NB310_311 := n9_; have NB311_310 := n10_; clear n0_ n1_ n2_ n3_ n4_ n5_ n6_ n7_ n8_ n9_ n10_; clear hb hbox hg; have hnb31 := NB310_302.out; have hnc31 := NB302_310.out; have hnb32 := NB310_311.out; have hnc32 := NB311_310.out; have hcz33_0 : w30.cell? ⟨gb310, 0, none⟩ = some (.int .i64 0) := (blk_cell BK310.out 0).trans rfl; have hcz33_1 : w30.cell? ⟨gb310, 1, none⟩ = some (.string (⟨#[]⟩ : ByteArray)) := (blk_cell BK310.out 1).trans rfl; have hcz33_2 : w30.cell? ⟨gb310, 2, none⟩ = some (.int .i64 0) := (blk_cell BK310.out 2).trans rfl; have hcz33_3 : w30.cell? ⟨gb310, 3, none⟩ = some (.int .i64 0) := (blk_cell BK310.out 3).trans rfl; have hfz33_0 := blk_frozen BK310.out 0; have hfz33_1 := blk_frozen BK310.out 1; have hfz33_2 := blk_frozen BK310.out 2; have hfz33_3 := blk_frozen BK310.out 3; have hnb34 := NB311_302.out; have hnc34 := NB302_311.out; have hcz35_0 : w30.cell? ⟨gb311, 0, none⟩ = some (.int .i64 0) := (blk_cell BK311.out 0).trans rfl; have hcz35_1 : w30.cell? ⟨gb311, 1, none⟩ = some (.int .i64 0) := (blk_cell BK311.out 1).trans rfl; have hfz35_0 := blk_frozen BK311.out 0; have hfz35_1 := blk_frozen BK311.out 1))
            repeat (go_quiet (first | (go_at_call 41; (with_reducible refine (lexer_Next.calls k1 a0 x5_1 t303 t304 t305 t306 t307 t308 t309 _ A10.out).mono ?_); rintro e w28 ⟨rfl, hb⟩; have n0_ := Aside0.mk (Kd.R_below (by (with_reducible repeat (first | apply Kd.R_alloc | apply Kd.R_drewN | apply Kd.R_drew)); exact HO_3.out) hb); have n1_ := Aside0.mk (blk_below (g := gb302) (o := .cells #[.int .i64 t300, .int .i64 t301] 26 (0, 0)) (bk_ BK302.out) hb); have n2_ := Aside0.mk (below_step (bl1_ HB.out GE302.out) hb); clear HO_3; clear BK302; clear HB; have HO_3 := n0_; have BK302 := n1_; have HB := n2_; clear n0_ n1_ n2_; (try clear hb); (try clear hb2); (try clear hk); (try clear hi)) | ((with_reducible refine gate_dst (N := 7) rfl ?_); (try (refine gate_guard (by rfl) ?_; dsimp only)); refine box_event ?hg (N := 7) ?hd (cs := #[.int .i64 0, .string (⟨#[]⟩ : ByteArray), .int .i64 0, .int .i64 0]) (t := 46) ?hr ?_; (case hd => rfl); (case hg => rfl); (case hr => first | (go_simp; done) | (go_simp; rfl)); intro gb310 hg w29 hbox hb; have n0_ := Aside0.mk (Kd.R_below (Kd.R_elderB (by (with_reducible repeat (first | apply Kd.R_alloc | apply Kd.R_drewN | apply Kd.R_drew)); exact HO_3.out) gb310 (Nat.le_of_eq hg.symm)) hb); have n1_ := Aside0.mk (blk_below (g := gb302) (o := .cells #[.int .i64 t300, .int .i64 t301] 26 (0, 0)) (bk_ BK302.out) hb); have n2_ := Aside0.mk (below_step (bl1_ HB.out GE302.out) hb); have n3_ := Aside0.mk (hbox); have n4_ := Aside0.mk ((by rw [hg]; exact (below_size (bl1_ HB.out GE302.out)) : w.heap.size ≤ gb310)); have n5_ := Aside0.mk ((by rw [hg]; exact (below_size (bl1_ HB.out GE302.out)) : w.heap.size ≤ gb310)); have n6_ := Aside0.mk ((by rw [hg]; exact Nat.ne_of_lt (blk_lt (g := gb302) (o := .cells #[.int .i64 t300, .int .i64 t301] 26 (0, 0)) (bk_ BK302.out)) : gb302 ≠ gb310)); have n7_ := Aside0.mk ((by rw [hg]; exact Nat.ne_of_gt (blk_lt (g := gb302) (o := .cells #[.int .i64 t300, .int .i64 t301] 26 (0, 0)) (bk_ BK302.out)) : gb310 ≠ gb302)); clear HO_3; clear BK302; clear HB; have HO_3 := n0_; have BK302 := n1_; have HB := n2_; have BK310 := n3_; have GW310 := n4_; have GE310 := n5_; have NB302_310 := n6_; have NB310_302 := n7_; clear n0_ n1_ n2_ n3_ n4_ n5_ n6_ n7_; clear hb hbox hg) | ((with_reducible refine gate_dst (N := 9) rfl ?_); (try (refine gate_guard (by rfl) ?_; dsimp only)); refine box_event ?hg (N := 9) ?hd (cs := #[.int .i64 0, .int .i64 0]) (t := 26) ?hr ?_; (case hd => rfl); (case hg => rfl); (case hr => first | (go_simp; done) | (go_simp; rfl)); intro gb311 hg w30 hbox hb; have n0_ := Aside0.mk (Kd.R_below (by (with_reducible repeat (first | apply Kd.R_alloc | apply Kd.R_drewN | apply Kd.R_drew)); exact HO_3.out) hb); have n1_ := Aside0.mk (blk_below (g := gb302) (o := .cells #[.int .i64 t300, .int .i64 t301] 26 (0, 0)) (bk_ BK302.out) hb); have n2_ := Aside0.mk (blk_below (g := gb310) (o := .cells #[.int .i64 0, .string (⟨#[]⟩ : ByteArray), .int .i64 0, .int .i64 0] 46 (0, 0)) (bk_ BK310.out) hb); have n3_ := Aside0.mk (below_step (bl2_ HB.out GE302.out GE310.out) hb); have n4_ := Aside0.mk (hbox); have n5_ := Aside0.mk ((by rw [hg]; exact (below_size (bl2_ HB.out GE302.out GE310.out)) : w.heap.size ≤ gb311)); have n6_ := Aside0.mk ((by rw [hg]; exact (below_size (bl2_ HB.out GE302.out GE310.out)) : w.heap.size ≤ gb311)); have n7_ := Aside0.mk ((by rw [hg]; exact Nat.ne_of_lt (blk_lt (g := gb302) (o := .cells #[.int .i64 t300, .int .i64 t301] 26 (0, 0)) (bk_ BK302.out)) : gb302 ≠ gb311)); have n8_ := Aside0.mk ((by rw [hg]; exact Nat.ne_of_gt (blk_lt (g := gb302) (o := .cells #[.int .i64 t300, .int .i64 t301] 26 (0, 0)) (bk_ BK302.out)) : gb311 ≠ gb302)); have n9_ := Aside0.mk ((by rw [hg]; exact Nat.ne_of_lt (blk_lt (g := gb310) (o := .cells #[.int .i64 0, .string (⟨#[]⟩ : ByteArray), .int .i64 0, .int .i64 0] 46 (0, 0)) (bk_ BK310.out)) : gb310 ≠ gb311)); have n10_ := Aside0.mk ((by rw [hg]; exact Nat.ne_of_gt (blk_lt (g := gb310) (o := .cells #[.int .i64 0, .string (⟨#[]⟩ : ByteArray), .int .i64 0, .int .i64 0] 46 (0, 0)) (bk_ BK310.out)) : gb311 ≠ gb310)); clear HO_3; clear BK302; clear BK310; clear HB; have HO_3 := n0_; have BK302 := n1_; have BK310 := n2_; have HB := n3_; have BK311 := n4_; have GW311 := n5_; have GE311 := n6_; have NB302_311 := n7_; have NB311_302 := n8_; have NB310_311 := n9_; have NB311_310 := n10_; clear n0_ n1_ n2_ n3_ n4_ n5_ n6_ n7_ n8_ n9_ n10_; clear hb hbox hg; have hnb31 := NB310_302.out; have hnc31 := NB302_310.out; have hnb32 := NB310_311.out; have hnc32 := NB311_310.out; have hcz33_0 : w30.cell? ⟨gb310, 0, none⟩ = some (.int .i64 0) := (blk_cell BK310.out 0).trans rfl; have hcz33_1 : w30.cell? ⟨gb310, 1, none⟩ = some (.string (⟨#[]⟩ : ByteArray)) := (blk_cell BK310.out 1).trans rfl; have hcz33_2 : w30.cell? ⟨gb310, 2, none⟩ = some (.int .i64 0) := (blk_cell BK310.out 2).trans rfl; have hcz33_3 : w30.cell? ⟨gb310, 3, none⟩ = some (.int .i64 0) := (blk_cell BK310.out 3).trans rfl; have hfz33_0 := blk_frozen BK310.out 0; have hfz33_1 := blk_frozen BK310.out 1; have hfz33_2 := blk_frozen BK310.out 2; have hfz33_3 := blk_frozen BK310.out 3; have hnb34 := NB311_302.out; have hnc34 := NB302_311.out; have hcz35_0 : w30.cell? ⟨gb311, 0, none⟩ = some (.int .i64 0) := (blk_cell BK311.out 0).trans rfl; have hcz35_1 : w30.cell? ⟨gb311, 1, none⟩ = some (.int .i64 0) := (blk_cell BK311.out 1).trans rfl; have hfz35_0 := blk_frozen BK311.out 0; have hfz35_1 := blk_frozen BK311.out 1)); go_upto_region 11 with (first | (go_at_call 41; (with_reducible refine (lexer_Next.calls k1 a0 x5_1 t303 t304 t305 t306 t307 t308 t309 _ A10.out).mono ?_); rintro e w28 ⟨rfl, hb⟩; have n0_ := Aside0.mk (Kd.R_below (by (with_reducible repeat (first | apply Kd.R_alloc | apply Kd.R_drewN | apply Kd.R_drew)); exact HO_3.out) hb); have n1_ := Aside0.mk (blk_below (g := gb302) (o := .cells #[.int .i64 t300, .int .i64 t301] 26 (0, 0)) (bk_ BK302.out) hb); have n2_ := Aside0.mk (below_step (bl1_ HB.out GE302.out) hb); clear HO_3; clear BK302; clear HB; have HO_3 := n0_; have BK302 := n1_; have HB := n2_; clear n0_ n1_ n2_; (try clear hb); (try clear hb2); (try clear hk); (try clear hi)) | ((with_reducible refine gate_dst (N := 7) rfl ?_); (try (refine gate_guard (by rfl) ?_; dsimp only)); refine box_event ?hg (N := 7) ?hd (cs := #[.int .i64 0, .string (⟨#[]⟩ : ByteArray), .int .i64 0, .int .i64 0]) (t := 46) ?hr ?_; (case hd => rfl); (case hg => rfl); (case hr => first | (go_simp; done) | (go_simp; rfl)); intro gb310 hg w29 hbox hb; have n0_ := Aside0.mk (Kd.R_below (Kd.R_elderB (by (with_reducible repeat (first | apply Kd.R_alloc | apply Kd.R_drewN | apply Kd.R_drew)); exact HO_3.out) gb310 (Nat.le_of_eq hg.symm)) hb); have n1_ := Aside0.mk (blk_below (g := gb302) (o := .cells #[.int .i64 t300, .int .i64 t301] 26 (0, 0)) (bk_ BK302.out) hb); have n2_ := Aside0.mk (below_step (bl1_ HB.out GE302.out) hb); have n3_ := Aside0.mk (hbox); have n4_ := Aside0.mk ((by rw [hg]; exact (below_size (bl1_ HB.out GE302.out)) : w.heap.size ≤ gb310)); have n5_ := Aside0.mk ((by rw [hg]; exact (below_size (bl1_ HB.out GE302.out)) : w.heap.size ≤ gb310)); have n6_ := Aside0.mk ((by rw [hg]; exact Nat.ne_of_lt (blk_lt (g := gb302) (o := .cells #[.int .i64 t300, .int .i64 t301] 26 (0, 0)) (bk_ BK302.out)) : gb302 ≠ gb310)); have n7_ := Aside0.mk ((by rw [hg]; exact Nat.ne_of_gt (blk_lt (g := gb302) (o := .cells #[.int .i64 t300, .int .i64 t301] 26 (0, 0)) (bk_ BK302.out)) : gb310 ≠ gb302)); clear HO_3; clear BK302; clear HB; have HO_3 := n0_; have BK302 := n1_; have HB := n2_; have BK310 := n3_; have GW310 := n4_; have GE310 := n5_; have NB302_310 := n6_; have NB310_302 := n7_; clear n0_ n1_ n2_ n3_ n4_ n5_ n6_ n7_; clear hb hbox hg) | ((with_reducible refine gate_dst (N := 9) rfl ?_); (try (refine gate_guard (by rfl) ?_; dsimp only)); refine box_event ?hg (N := 9) ?hd (cs := #[.int .i64 0, .int .i64 0]) (t := 26) ?hr ?_; (case hd => rfl); (case hg => rfl); (case hr => first | (go_simp; done) | (go_simp; rfl)); intro gb311 hg w30 hbox hb; have n0_ := Aside0.mk (Kd.R_below (by (with_reducible repeat (first | apply Kd.R_alloc | apply Kd.R_drewN | apply Kd.R_drew)); exact HO_3.out) hb); have n1_ := Aside0.mk (blk_below (g := gb302) (o := .cells #[.int .i64 t300, .int .i64 t301] 26 (0, 0)) (bk_ BK302.out) hb); have n2_ := Aside0.mk (blk_below (g := gb310) (o := .cells #[.int .i64 0, .string (⟨#[]⟩ : ByteArray), .int .i64 0, .int .i64 0] 46 (0, 0)) (bk_ BK310.out) hb); have n3_ := Aside0.mk (below_step (bl2_ HB.out GE302.out GE310.out) hb); have n4_ := Aside0.mk (hbox); have n5_ := Aside0.mk ((by rw [hg]; exact (below_size (bl2_ HB.out GE302.out GE310.out)) : w.heap.size ≤ gb311)); have n6_ := Aside0.mk ((by rw [hg]; exact (below_size (bl2_ HB.out GE302.out GE310.out)) : w.heap.size ≤ gb311)); have n7_ := Aside0.mk ((by rw [hg]; exact Nat.ne_of_lt (blk_lt (g := gb302) (o := .cells #[.int .i64 t300, .int .i64 t301] 26 (0, 0)) (bk_ BK302.out)) : gb302 ≠ gb311)); have n8_ := Aside0.mk ((by rw [hg]; exact Nat.ne_of_gt (blk_lt (g := gb302) (o := .cells #[.int .i64 t300, .int .i64 t301] 26 (0, 0)) (bk_ BK302.out)) : gb311 ≠ gb302)); have n9_ := Aside0.mk ((by rw [hg]; exact Nat.ne_of_lt (blk_lt (g := gb310) (o := .cells #[.int .i64 0, .string (⟨#[]⟩ : ByteArray), .int .i64 0, .int .i64 0] 46 (0, 0)) (bk_ BK310.out)) : gb310 ≠ gb311)); have n10_ := Aside0.mk ((by rw [hg]; exact Nat.ne_of_gt (blk_lt (g := gb310) (o := .cells #[.int .i64 0, .string (⟨#[]⟩ : ByteArray), .int .i64 0, .int .i64 0] 46 (0, 0)) (bk_ BK310.out)) : gb311 ≠ gb310)); clear HO_3; clear BK302; clear BK310; clear HB; have HO_3 := n0_; have BK302 := n1_; have BK310 := n2_; have HB := n3_; have BK311 := n4_; have GW311 := n5_; have GE311 := n6_; have NB302_311 := n7_; have NB311_302 := n8_; have NB310_311 := n9_; have NB311_310 := n10_; clear n0_ n1_ n2_ n3_ n4_ n5_ n6_ n7_ n8_ n9_ n10_; clear hb hbox hg; have hnb31 := NB310_302.out; have hnc31 := NB302_310.out; have hnb32 := NB310_311.out; have hnc32 := NB311_310.out; have hcz33_0 : w30.cell? ⟨gb310, 0, none⟩ = some (.int .i64 0) := (blk_cell BK310.out 0).trans rfl; have hcz33_1 : w30.cell? ⟨gb310, 1, none⟩ = some (.string (⟨#[]⟩ : ByteArray)) := (blk_cell BK310.out 1).trans rfl; have hcz33_2 : w30.cell? ⟨gb310, 2, none⟩ = some (.int .i64 0) := (blk_cell BK310.out 2).trans rfl; have hcz33_3 : w30.cell? ⟨gb310, 3, none⟩ = some (.int .i64 0) := (blk_cell BK310.out 3).trans rfl; have hfz33_0 := blk_frozen BK310.out 0; have hfz33_1 := blk_frozen BK310.out 1; have hfz33_2 := blk_frozen BK310.out 2; have hfz33_3 := blk_frozen BK310.out 3; have hnb34 := NB311_302.out; have hnc34 := NB302_311.out; have hcz35_0 : w30.cell? ⟨gb311, 0, none⟩ = some (.int .i64 0) := (blk_cell BK311.out 0).trans rfl; have hcz35_1 : w30.cell? ⟨gb311, 1, none⟩ = some (.int .i64 0) := (blk_cell BK311.out 1).trans rfl; have hfz35_0 := blk_frozen BK311.out 0; have hfz35_1 := blk_frozen BK311.out 1)))
            (try simp only [Act.put, List.setIfInBounds_toArray, List.set_cons_zero, List.set_cons_succ])
            go_cut [55] (fun v55 wc => ∃ (kq : Nat) (x55_26 : Bool), v55 = .bool x55_26 ∧ Aside0 (salchowlaw09_LexerSteps.j1 kq a0 t297 x6_1 t307 x55_26 t300 t301 t303 t304 t305 t306 = some r) ∧ Aside0 (kq ≤ k1) ∧ Aside0 (Kd.R k46 46 wc w.heap.size (fun k_ => k_ ≠ gb310) v298 t297) ∧ Aside0 (wc.heap[gb302]? = some (.cells #[.int .i64 t300, .int .i64 t301] 26 (0, 0))) ∧ Aside0 (wc.heap[gb310]? = some (.cells #[.int .i64 t303, .string t304, .int .i64 t305, .int .i64 t306] 46 (0, 0))) ∧ Aside0 (wc.heap[gb311]? = some (.cells #[.int .i64 t308, .int .i64 t309] 26 (0, 0))) ∧ Aside0 (Below w.heap.size w wc))
            case first =>
              have H := HC27.out
              clear HC27
              by_cases c36 : t307 < x5_1
              · rw [if_pos c36] at H
                have c36b0 : decide (t307 < x5_1) = true := decide_eq_true c36
                clear c36
                (first | rw [c36b0] | (simp only [i64_w, i32_w]; rw [c36b0]) | skip)
                have H' := Aside0.mk H
                clear H
                go_wp2
                repeat (go_quiet (fail); try go_wp2)
                go_meet
                case rel => exact ⟨_, (true), (by first | rfl | (simp; done) | (simp [*]; done) | (simp <;> rfl)), H', ⟨by have := HK1.out; first | omega | exact Nat.le_refl _⟩, ⟨by (with_reducible repeat (first | apply Kd.R_alloc | apply Kd.R_drewN | apply Kd.R_drew)); exact Kd.R_mono (Kd.R_far (p := ⟨gb311, 1, none⟩) (Kd.R_far (p := ⟨gb311, 0, none⟩) (Kd.R_far (p := ⟨gb310, 3, none⟩) (Kd.R_far (p := ⟨gb310, 2, none⟩) (Kd.R_far (p := ⟨gb310, 1, none⟩) (Kd.R_far (p := ⟨gb310, 0, none⟩) (Kd.R_types (Kd.R_mono HO_3.out (fun k_ hk => (⟨hk, hk.2⟩ : _ ∧ k_ ≠ gb310))) BK311.out (by decide)) (fun _ hk => hk.1.2) (.int .i64 t303)) (fun _ hk => hk.1.2) (.string t304)) (fun _ hk => hk.1.2) (.int .i64 t305)) (fun _ hk => hk.1.2) (.int .i64 t306)) (fun _ hk => hk.2) (.int .i64 t308)) (fun _ hk => hk.2) (.int .i64 t309)) (fun _ hk => hk.1.1.2)⟩, ⟨by (with_reducible repeat (first | refine blk_drewN ?_ _ | refine blk_drew ?_ | refine blk_alloc ?_ _)); refine blk_far ?_ NB302_311.out _; (with_reducible repeat (first | refine blk_drewN ?_ _ | refine blk_drew ?_ | refine blk_alloc ?_ _)); refine blk_far ?_ NB302_311.out _; (with_reducible repeat (first | refine blk_drewN ?_ _ | refine blk_drew ?_ | refine blk_alloc ?_ _)); refine blk_far ?_ NB302_310.out _; (with_reducible repeat (first | refine blk_drewN ?_ _ | refine blk_drew ?_ | refine blk_alloc ?_ _)); refine blk_far ?_ NB302_310.out _; (with_reducible repeat (first | refine blk_drewN ?_ _ | refine blk_drew ?_ | refine blk_alloc ?_ _)); refine blk_far ?_ NB302_310.out _; (with_reducible repeat (first | refine blk_drewN ?_ _ | refine blk_drew ?_ | refine blk_alloc ?_ _)); refine blk_far ?_ NB302_310.out _; (with_reducible repeat (first | refine blk_drewN ?_ _ | refine blk_drew ?_ | refine blk_alloc ?_ _)); exact BK302.out⟩, ⟨by (with_reducible repeat (first | refine blk_drewN ?_ _ | refine blk_drew ?_ | refine blk_alloc ?_ _)); refine blk_far ?_ NB310_311.out _; (with_reducible repeat (first | refine blk_drewN ?_ _ | refine blk_drew ?_ | refine blk_alloc ?_ _)); refine blk_far ?_ NB310_311.out _; (with_reducible repeat (first | refine blk_drewN ?_ _ | refine blk_drew ?_ | refine blk_alloc ?_ _)); refine blk_put (cs := #[.int .i64 t303, .string t304, .int .i64 t305, .int .i64 0]) ?_ 3 _ rfl; (with_reducible repeat (first | refine blk_drewN ?_ _ | refine blk_drew ?_ | refine blk_alloc ?_ _)); refine blk_put (cs := #[.int .i64 t303, .string t304, .int .i64 0, .int .i64 0]) ?_ 2 _ rfl; (with_reducible repeat (first | refine blk_drewN ?_ _ | refine blk_drew ?_ | refine blk_alloc ?_ _)); refine blk_put (cs := #[.int .i64 t303, .string (⟨#[]⟩ : ByteArray), .int .i64 0, .int .i64 0]) ?_ 1 _ rfl; (with_reducible repeat (first | refine blk_drewN ?_ _ | refine blk_drew ?_ | refine blk_alloc ?_ _)); refine blk_put (cs := #[.int .i64 0, .string (⟨#[]⟩ : ByteArray), .int .i64 0, .int .i64 0]) ?_ 0 _ rfl; (with_reducible repeat (first | refine blk_drewN ?_ _ | refine blk_drew ?_ | refine blk_alloc ?_ _)); exact BK310.out⟩, ⟨by (with_reducible repeat (first | refine blk_drewN ?_ _ | refine blk_drew ?_ | refine blk_alloc ?_ _)); refine blk_put (cs := #[.int .i64 t308, .int .i64 0]) ?_ 1 _ rfl; (with_reducible repeat (first | refine blk_drewN ?_ _ | refine blk_drew ?_ | refine blk_alloc ?_ _)); refine blk_put (cs := #[.int .i64 0, .int .i64 0]) ?_ 0 _ rfl; (with_reducible repeat (first | refine blk_drewN ?_ _ | refine blk_drew ?_ | refine blk_alloc ?_ _)); refine blk_far ?_ NB311_310.out _; (with_reducible repeat (first | refine blk_drewN ?_ _ | refine blk_drew ?_ | refine blk_alloc ?_ _)); refine blk_far ?_ NB311_310.out _; (with_reducible repeat (first | refine blk_drewN ?_ _ | refine blk_drew ?_ | refine blk_alloc ?_ _)); refine blk_far ?_ NB311_310.out _; (with_reducible repeat (first | refine blk_drewN ?_ _ | refine blk_drew ?_ | refine blk_alloc ?_ _)); refine blk_far ?_ NB311_310.out _; (with_reducible repeat (first | refine blk_drewN ?_ _ | refine blk_drew ?_ | refine blk_alloc ?_ _)); exact BK311.out⟩, ⟨bl3_ HB.out GE302.out GE310.out GE311.out⟩⟩
              · rw [if_neg c36] at H
                have c36b0 : decide (t307 < x5_1) = false := decide_eq_false c36
                clear c36
                (first | rw [c36b0] | (simp only [i64_w, i32_w]; rw [c36b0]) | skip)
                have H' := Aside0.mk H
                clear H
                go_wp2
                repeat (go_quiet (fail); try go_wp2)
                go_meet
                case rel => exact ⟨_, (decide (t307 > (a0.size : Int))), (by first | rfl | (simp; done) | (simp [*]; done) | (simp <;> rfl)), H', ⟨by have := HK1.out; first | omega | exact Nat.le_refl _⟩, ⟨by (with_reducible repeat (first | apply Kd.R_alloc | apply Kd.R_drewN | apply Kd.R_drew)); exact Kd.R_mono (Kd.R_far (p := ⟨gb311, 1, none⟩) (Kd.R_far (p := ⟨gb311, 0, none⟩) (Kd.R_far (p := ⟨gb310, 3, none⟩) (Kd.R_far (p := ⟨gb310, 2, none⟩) (Kd.R_far (p := ⟨gb310, 1, none⟩) (Kd.R_far (p := ⟨gb310, 0, none⟩) (Kd.R_types (Kd.R_mono HO_3.out (fun k_ hk => (⟨hk, hk.2⟩ : _ ∧ k_ ≠ gb310))) BK311.out (by decide)) (fun _ hk => hk.1.2) (.int .i64 t303)) (fun _ hk => hk.1.2) (.string t304)) (fun _ hk => hk.1.2) (.int .i64 t305)) (fun _ hk => hk.1.2) (.int .i64 t306)) (fun _ hk => hk.2) (.int .i64 t308)) (fun _ hk => hk.2) (.int .i64 t309)) (fun _ hk => hk.1.1.2)⟩, ⟨by (with_reducible repeat (first | refine blk_drewN ?_ _ | refine blk_drew ?_ | refine blk_alloc ?_ _)); refine blk_far ?_ NB302_311.out _; (with_reducible repeat (first | refine blk_drewN ?_ _ | refine blk_drew ?_ | refine blk_alloc ?_ _)); refine blk_far ?_ NB302_311.out _; (with_reducible repeat (first | refine blk_drewN ?_ _ | refine blk_drew ?_ | refine blk_alloc ?_ _)); refine blk_far ?_ NB302_310.out _; (with_reducible repeat (first | refine blk_drewN ?_ _ | refine blk_drew ?_ | refine blk_alloc ?_ _)); refine blk_far ?_ NB302_310.out _; (with_reducible repeat (first | refine blk_drewN ?_ _ | refine blk_drew ?_ | refine blk_alloc ?_ _)); refine blk_far ?_ NB302_310.out _; (with_reducible repeat (first | refine blk_drewN ?_ _ | refine blk_drew ?_ | refine blk_alloc ?_ _)); refine blk_far ?_ NB302_310.out _; (with_reducible repeat (first | refine blk_drewN ?_ _ | refine blk_drew ?_ | refine blk_alloc ?_ _)); exact BK302.out⟩, ⟨by (with_reducible repeat (first | refine blk_drewN ?_ _ | refine blk_drew ?_ | refine blk_alloc ?_ _)); refine blk_far ?_ NB310_311.out _; (with_reducible repeat (first | refine blk_drewN ?_ _ | refine blk_drew ?_ | refine blk_alloc ?_ _)); refine blk_far ?_ NB310_311.out _; (with_reducible repeat (first | refine blk_drewN ?_ _ | refine blk_drew ?_ | refine blk_alloc ?_ _)); refine blk_put (cs := #[.int .i64 t303, .string t304, .int .i64 t305, .int .i64 0]) ?_ 3 _ rfl; (with_reducible repeat (first | refine blk_drewN ?_ _ | refine blk_drew ?_ | refine blk_alloc ?_ _)); refine blk_put (cs := #[.int .i64 t303, .string t304, .int .i64 0, .int .i64 0]) ?_ 2 _ rfl; (with_reducible repeat (first | refine blk_drewN ?_ _ | refine blk_drew ?_ | refine blk_alloc ?_ _)); refine blk_put (cs := #[.int .i64 t303, .string (⟨#[]⟩ : ByteArray), .int .i64 0, .int .i64 0]) ?_ 1 _ rfl; (with_reducible repeat (first | refine blk_drewN ?_ _ | refine blk_drew ?_ | refine blk_alloc ?_ _)); refine blk_put (cs := #[.int .i64 0, .string (⟨#[]⟩ : ByteArray), .int .i64 0, .int .i64 0]) ?_ 0 _ rfl; (with_reducible repeat (first | refine blk_drewN ?_ _ | refine blk_drew ?_ | refine blk_alloc ?_ _)); exact BK310.out⟩, ⟨by (with_reducible repeat (first | refine blk_drewN ?_ _ | refine blk_drew ?_ | refine blk_alloc ?_ _)); refine blk_put (cs := #[.int .i64 t308, .int .i64 0]) ?_ 1 _ rfl; (with_reducible repeat (first | refine blk_drewN ?_ _ | refine blk_drew ?_ | refine blk_alloc ?_ _)); refine blk_put (cs := #[.int .i64 0, .int .i64 0]) ?_ 0 _ rfl; (with_reducible repeat (first | refine blk_drewN ?_ _ | refine blk_drew ?_ | refine blk_alloc ?_ _)); refine blk_far ?_ NB311_310.out _; (with_reducible repeat (first | refine blk_drewN ?_ _ | refine blk_drew ?_ | refine blk_alloc ?_ _)); refine blk_far ?_ NB311_310.out _; (with_reducible repeat (first | refine blk_drewN ?_ _ | refine blk_drew ?_ | refine blk_alloc ?_ _)); refine blk_far ?_ NB311_310.out _; (with_reducible repeat (first | refine blk_drewN ?_ _ | refine blk_drew ?_ | refine blk_alloc ?_ _)); refine blk_far ?_ NB311_310.out _; (with_reducible repeat (first | refine blk_drewN ?_ _ | refine blk_drew ?_ | refine blk_alloc ?_ _)); exact BK311.out⟩, ⟨bl3_ HB.out GE302.out GE310.out GE311.out⟩⟩
            case rest =>
              clear HC27
              try clear c1
              try clear c2
              try clear c2b0
              try clear c2b1
              try clear p2
              try clear c3
              try clear p6
              try clear c9
              try clear c9b0
              try clear c11
              try clear c11b0
              try clear c13
              try clear c14
              try clear c14b0
              try clear c14b1
              try clear c14b2
              try clear c18
              try clear c19
              try clear c21
              try clear c31
              try clear c32
              try clear c34
              try clear c36
              try clear c36b0
              try clear hcz20_0
              try clear hcz20_1
              try clear hcz20_2
              try clear hcz20_3
              try clear hcz22_0
              try clear hcz22_1
              try clear hcz24_0
              try clear hcz24_1
              try clear hcz25_0
              try clear hcz25_1
              try clear hcz33_0
              try clear hcz33_1
              try clear hcz33_2
              try clear hcz33_3
              try clear hcz35_0
              try clear hcz35_1
              try clear hcz8_0
              try clear hcz8_1
              try clear hfz20_0
              try clear hfz20_1
              try clear hfz20_2
              try clear hfz20_3
              try clear hfz22_0
              try clear hfz22_1
              try clear hfz24_0
              try clear hfz24_1
              try clear hfz25_0
              try clear hfz25_1
              try clear hfz33_0
              try clear hfz33_1
              try clear hfz33_2
              try clear hfz33_3
              try clear hfz35_0
              try clear hfz35_1
              try clear hfz8_0
              try clear hfz8_1
              try clear p2
              obtain ⟨kq, x55_26, rfl, HA, HJ26, HO_3, BK302, BK310, BK311, HB⟩ := hcut
              cases kq with
              | zero => exact absurd HA.out (by simp [salchowlaw09_LexerSteps.j1])
              | succ kj26 =>
                have H := HA.out
                clear HA
                simp only [salchowlaw09_LexerSteps.j1] at H
                by_cases c37 : x55_26 = true
                · subst c37
                  have H1 : (none) = some r := by rw [if_pos rfl] at H; exact H
                  clear H
                  have H := H1
                  clear H1
                  exact absurd H (by simp)
                · replace c37 := Bool.eq_false_iff.mpr c37
                  subst c37
                  have H1 : (if (!(t300 == 0) || (!(t301 == 0))) = true then (if t303 = 5 then (none) else (if (t297.length : Int) = 0 then (salchowlaw09_LexerSteps.l0 kj26 a0 t297 t307 (wrap64 (x6_1 + 1)) t300 t301) else (none))) else (if x6_1 ≥ (t297.length : Int) then (salchowlaw09_LexerSteps.j2 kj26 a0 t297 x6_1 t307 true t300 t301 t303 t304 t305 t306) else (if 0 ≤ x6_1 then (if x6_1 < (t297.length : Int) then (salchowlaw09_LexerSteps.j2 kj26 a0 t297 x6_1 t307 (!(((rd_T46 t297 x6_1).f0) == t303) || (!((((rd_T46 t297 x6_1).f1).toList) == t304.toList) || (!(((rd_T46 t297 x6_1).f2) == t305) || (!(((rd_T46 t297 x6_1).f3) == t306))))) t300 t301 t303 t304 t305 t306) else (none)) else (none)))) = some r := by rw [if_neg (show ¬ (false = true) by decide)] at H; exact H
                  clear H
                  have H := H1
                  clear H1
                  by_cases c38 : (!(t300 == 0) || (!(t301 == 0))) = true
                  · rw [if_pos c38] at H
                    have c38b0 : (!(t300 == 0) || (!(t301 == 0))) = true := c38
                    clear c38
                    by_cases c39 : t303 = 5
                    · rw [if_pos c39] at H
                      exact absurd H (by simp)
                    · rw [if_neg c39] at H
                      have c39b0 : (t303 == 5) = false := beq_eq_false_iff_ne.mpr c39
                      have c39b1 : (t303 != 5) = true := bne_iff_ne.mpr c39
                      by_cases c40 : (t297.length : Int) = 0
                      · rw [if_pos c40] at H
                        have c40b0 : ((t297.length : Int) == 0) = true := beq_iff_eq.mpr c40
                        have c40b1 : ((t297.length : Int) != 0) = false := bne_eq_false_iff_eq.mpr c40
                        clear c40
                        have H' := Aside0.mk H
                        clear H
                        have hnb41 := NB302_310.out
                        have hnc41 := NB310_302.out
                        have hnb42 := NB302_311.out
                        have hnc42 := NB311_302.out
                        have hcz43_0 : wc.cell? ⟨gb302, 0, none⟩ = some (.int .i64 t300) := (blk_cell BK302.out 0).trans rfl
                        have hcz43_1 : wc.cell? ⟨gb302, 1, none⟩ = some (.int .i64 t301) := (blk_cell BK302.out 1).trans rfl
                        have hfz43_0 := blk_frozen BK302.out 0
                        have hfz43_1 := blk_frozen BK302.out 1
                        have hnb44 := NB310_311.out
                        have hnc44 := NB311_310.out
                        have hcz45_0 : wc.cell? ⟨gb310, 0, none⟩ = some (.int .i64 t303) := (blk_cell BK310.out 0).trans rfl
                        have hcz45_1 : wc.cell? ⟨gb310, 1, none⟩ = some (.string t304) := (blk_cell BK310.out 1).trans rfl
                        have hcz45_2 : wc.cell? ⟨gb310, 2, none⟩ = some (.int .i64 t305) := (blk_cell BK310.out 2).trans rfl
                        have hcz45_3 : wc.cell? ⟨gb310, 3, none⟩ = some (.int .i64 t306) := (blk_cell BK310.out 3).trans rfl
                        have hfz45_0 := blk_frozen BK310.out 0
                        have hfz45_1 := blk_frozen BK310.out 1
                        have hfz45_2 := blk_frozen BK310.out 2
                        have hfz45_3 := blk_frozen BK310.out 3
                        obtain ⟨Ao46, co46, eo46⟩ := Kd.R_slice HO_3.out
                        subst eo46
                        go_wp2
                        repeat (go_quiet (fail); try go_wp2)
                        go_roundg kj26
                        case measure => have := HK1.out; have := HJ26.out; omega
                        case rel => exact ⟨(t307), (wrap64 (x6_1 + 1)), (by first | rfl | (simp; done) | (simp [*]; done) | (simp <;> rfl)), (by first | rfl | (simp; done) | (simp [*]; done) | (simp <;> rfl)), H', ⟨by have := HK1.out; have := HJ26.out; omega⟩, ⟨by (with_reducible repeat (first | apply Kd.R_alloc | apply Kd.R_drewN | apply Kd.R_drew)); exact Kd.R_mono HO_3.out (fun _ hk => trivial)⟩, ⟨by (with_reducible repeat (first | refine blk_drewN ?_ _ | refine blk_drew ?_ | refine blk_alloc ?_ _)); exact BK302.out⟩, ⟨bl3_ HB.out GE302.out GE310.out GE311.out⟩⟩
                      · rw [if_neg c40] at H
                        exact absurd H (by simp)
                  · rw [if_neg c38] at H
                    have c38b0 : (!(t300 == 0) || (!(t301 == 0))) = false := by simpa using c38
                    clear c38
                    have HC47 := Aside0.mk H
                    clear H
                    have hnb48 := NB302_310.out
                    have hnc48 := NB310_302.out
                    have hnb49 := NB302_311.out
                    have hnc49 := NB311_302.out
                    have hcz50_0 : wc.cell? ⟨gb302, 0, none⟩ = some (.int .i64 t300) := (blk_cell BK302.out 0).trans rfl
                    have hcz50_1 : wc.cell? ⟨gb302, 1, none⟩ = some (.int .i64 t301) := (blk_cell BK302.out 1).trans rfl
                    have hfz50_0 := blk_frozen BK302.out 0
                    have hfz50_1 := blk_frozen BK302.out 1
                    go_upto_region 17 with (fail)
                    repeat (go_quiet (fail); go_upto_region 17 with (fail))
                    go_cut [79] (fun v79 wc => ∃ (kq : Nat) (x79_46 : Bool), v79 = .bool x79_46 ∧ Aside0 (salchowlaw09_LexerSteps.j2 kq a0 t297 x6_1 t307 x79_46 t300 t301 t303 t304 t305 t306 = some r) ∧ Aside0 (kq ≤ kj26) ∧ Aside0 (Kd.R k46 46 wc w.heap.size (fun k_ => k_ ≠ gb310) v298 t297) ∧ Aside0 (wc.heap[gb302]? = some (.cells #[.int .i64 t300, .int .i64 t301] 26 (0, 0))) ∧ Aside0 (wc.heap[gb310]? = some (.cells #[.int .i64 t303, .string t304, .int .i64 t305, .int .i64 t306] 46 (0, 0))) ∧ Aside0 (wc.heap[gb311]? = some (.cells #[.int .i64 t308, .int .i64 t309] 26 (0, 0))) ∧ Aside0 (Below w.heap.size w wc))
                    case first =>
                      have H := HC47.out
                      clear HC47
                      by_cases c51 : x6_1 ≥ (t297.length : Int)
                      · rw [if_pos c51] at H
                        have c51b0 : decide ((t297.length : Int) ≤ x6_1) = true := decide_eq_true c51
                        clear c51
                        (first | rw [c51b0] | (simp only [i64_w, i32_w]; rw [c51b0]) | skip)
                        have H' := Aside0.mk H
                        clear H
                        obtain ⟨Ao52, co52, eo52⟩ := Kd.R_slice HO_3.out
                        subst eo52
                        go_wp2
                        repeat (go_quiet (fail); try go_wp2)
                        go_meet
                        case rel => exact ⟨_, (true), (by first | rfl | (simp; done) | (simp [*]; done) | (simp <;> rfl)), H', ⟨by have := HK1.out; have := HJ26.out; first | omega | exact Nat.le_refl _⟩, ⟨by (with_reducible repeat (first | apply Kd.R_alloc | apply Kd.R_drewN | apply Kd.R_drew)); exact HO_3.out⟩, ⟨by (with_reducible repeat (first | refine blk_drewN ?_ _ | refine blk_drew ?_ | refine blk_alloc ?_ _)); exact BK302.out⟩, ⟨by (with_reducible repeat (first | refine blk_drewN ?_ _ | refine blk_drew ?_ | refine blk_alloc ?_ _)); exact BK310.out⟩, ⟨by (with_reducible repeat (first | refine blk_drewN ?_ _ | refine blk_drew ?_ | refine blk_alloc ?_ _)); exact BK311.out⟩, ⟨bl3_ HB.out GE302.out GE310.out GE311.out⟩⟩
                      · rw [if_neg c51] at H
                        have c51b0 : decide ((t297.length : Int) ≤ x6_1) = false := decide_eq_false c51
                        clear c51
                        (first | rw [c51b0] | (simp only [i64_w, i32_w]; rw [c51b0]) | skip)
                        by_cases c53 : 0 ≤ x6_1
                        · rw [if_pos c53] at H
                          have c53b0 : decide (0 ≤ x6_1) = true := decide_eq_true c53
                          clear c53
                          by_cases c54 : x6_1 < (t297.length : Int)
                          · rw [if_pos c54] at H
                            have c54b0 : decide (x6_1 < (t297.length : Int)) = true := decide_eq_true c54
                            clear c54
                            have H' := Aside0.mk H
                            clear H
                            obtain ⟨Ao55, co55, eo55⟩ := Kd.R_slice HO_3.out
                            subst eo55
                            have p313 : 0 ≤ (x6_1 : Int) := of_decide_eq_true (by first | (with_reducible assumption) | assumption)
                            have q313 : x6_1 < (t297.length : Int) := of_decide_eq_true (by first | (with_reducible assumption) | assumption)
                            obtain ⟨ad313, e313, hx313_0, hx313_1, hx313_2, hx313_3⟩ := at_T46 (Kd.R_reads' HO_3.out).2.2 x6_1 p313 q313
                            cases e313
                            replace p313 := eq_true p313
                            replace q313 := eq_true q313
                            have hnb56 := NB310_302.out
                            have hnc56 := NB302_310.out
                            have hnb57 := NB310_311.out
                            have hnc57 := NB311_310.out
                            have hcz58_0 : wc.cell? ⟨gb310, 0, none⟩ = some (.int .i64 t303) := (blk_cell BK310.out 0).trans rfl
                            have hcz58_1 : wc.cell? ⟨gb310, 1, none⟩ = some (.string t304) := (blk_cell BK310.out 1).trans rfl
                            have hcz58_2 : wc.cell? ⟨gb310, 2, none⟩ = some (.int .i64 t305) := (blk_cell BK310.out 2).trans rfl
                            have hcz58_3 : wc.cell? ⟨gb310, 3, none⟩ = some (.int .i64 t306) := (blk_cell BK310.out 3).trans rfl
                            have hfz58_0 := blk_frozen BK310.out 0
                            have hfz58_1 := blk_frozen BK310.out 1
                            have hfz58_2 := blk_frozen BK310.out 2
                            have hfz58_3 := blk_frozen BK310.out 3
                            go_wp2
                            repeat (go_quiet (fail); try go_wp2)
                            go_meet
                            case rel => exact ⟨_, ((!(((rd_T46 t297 x6_1).f0) == t303) || (!((((rd_T46 t297 x6_1).f1).toList) == t304.toList) || (!(((rd_T46 t297 x6_1).f2) == t305) || (!(((rd_T46 t297 x6_1).f3) == t306)))))), (by first | rfl | (simp; done) | (simp [*]; done) | (simp <;> rfl)), H', ⟨by have := HK1.out; have := HJ26.out; first | omega | exact Nat.le_refl _⟩, ⟨by (with_reducible repeat (first | apply Kd.R_alloc | apply Kd.R_drewN | apply Kd.R_drew)); exact HO_3.out⟩, ⟨by (with_reducible repeat (first | refine blk_drewN ?_ _ | refine blk_drew ?_ | refine blk_alloc ?_ _)); exact BK302.out⟩, ⟨by (with_reducible repeat (first | refine blk_drewN ?_ _ | refine blk_drew ?_ | refine blk_alloc ?_ _)); exact BK310.out⟩, ⟨by (with_reducible repeat (first | refine blk_drewN ?_ _ | refine blk_drew ?_ | refine blk_alloc ?_ _)); exact BK311.out⟩, ⟨bl3_ HB.out GE302.out GE310.out GE311.out⟩⟩
                          · rw [if_neg c54] at H
                            exact absurd H (by simp)
                        · rw [if_neg c53] at H
                          exact absurd H (by simp)
                    case rest =>
                      clear HC47
                      try clear c1
                      try clear c2
                      try clear c2b0
                      try clear c2b1
                      try clear p2
                      try clear c3
                      try clear p3
                      try clear q3
                      try clear hx3
                      try clear c4
                      try clear c5
                      try clear p6
                      try clear c9
                      try clear c9b0
                      try clear c11
                      try clear c11b0
                      try clear c13
                      try clear c14
                      try clear c14b0
                      try clear c14b1
                      try clear c14b2
                      try clear c18
                      try clear c19
                      try clear c21
                      try clear c31
                      try clear p31
                      try clear q31
                      try clear hx31
                      try clear c32
                      try clear c34
                      try clear c36
                      try clear c36b0
                      try clear c37
                      try clear c38
                      try clear c38b0
                      try clear c39
                      try clear c39b0
                      try clear c39b1
                      try clear c40
                      try clear c40b0
                      try clear c40b1
                      try clear c41
                      try clear c42
                      try clear c44
                      try clear c48
                      try clear c49
                      try clear c51
                      try clear c51b0
                      try clear c53
                      try clear c53b0
                      try clear c54
                      try clear c54b0
                      try clear c56
                      try clear c57
                      try clear hcz20_0
                      try clear hcz20_1
                      try clear hcz20_2
                      try clear hcz20_3
                      try clear hcz22_0
                      try clear hcz22_1
                      try clear hcz24_0
                      try clear hcz24_1
                      try clear hcz25_0
                      try clear hcz25_1
                      try clear hcz33_0
                      try clear hcz33_1
                      try clear hcz33_2
                      try clear hcz33_3
                      try clear hcz35_0
                      try clear hcz35_1
                      try clear hcz43_0
                      try clear hcz43_1
                      try clear hcz45_0
                      try clear hcz45_1
                      try clear hcz45_2
                      try clear hcz45_3
                      try clear hcz50_0
                      try clear hcz50_1
                      try clear hcz58_0
                      try clear hcz58_1
                      try clear hcz58_2
                      try clear hcz58_3
                      try clear hcz8_0
                      try clear hcz8_1
                      try clear hfz20_0
                      try clear hfz20_1
                      try clear hfz20_2
                      try clear hfz20_3
                      try clear hfz22_0
                      try clear hfz22_1
                      try clear hfz24_0
                      try clear hfz24_1
                      try clear hfz25_0
                      try clear hfz25_1
                      try clear hfz33_0
                      try clear hfz33_1
                      try clear hfz33_2
                      try clear hfz33_3
                      try clear hfz35_0
                      try clear hfz35_1
                      try clear hfz43_0
                      try clear hfz43_1
                      try clear hfz45_0
                      try clear hfz45_1
                      try clear hfz45_2
                      try clear hfz45_3
                      try clear hfz50_0
                      try clear hfz50_1
                      try clear hfz58_0
                      try clear hfz58_1
                      try clear hfz58_2
                      try clear hfz58_3
                      try clear hfz8_0
                      try clear hfz8_1
                      try clear hx313_0
                      try clear hx313_1
                      try clear hx313_2
                      try clear hx313_3
                      try clear p2
                      try clear p313
                      try clear p6
                      try clear q313
                      obtain ⟨kq, x79_46, rfl, HA, HJ46, HO_3, BK302, BK310, BK311, HB⟩ := hcut
                      cases kq with
                      | zero => exact absurd HA.out (by simp [salchowlaw09_LexerSteps.j2])
                      | succ kj46 =>
                        have H := HA.out
                        clear HA
                        simp only [salchowlaw09_LexerSteps.j2] at H
                        by_cases c59 : x79_46 = true
                        · subst c59
                          have H1 : (none) = some r := by rw [if_pos rfl] at H; exact H
                          clear H
                          have H := H1
                          clear H1
                          exact absurd H (by simp)
                        · replace c59 := Bool.eq_false_iff.mpr c59
                          subst c59
                          have H1 : (if t303 = 5 then ((salchowlaw09_awake.f kj46).bind fun t314 => (if t314 = true then (if (t300 == 0 && (t301 == 0)) = true then (if x6_1 = (wrap64 ((t297.length : Int) - 1)) then (if t307 = (a0.size : Int) then (some (t306 == (a0.size : Int))) else (none)) else (none)) else (none)) else (none))) else (salchowlaw09_LexerSteps.l0 kj46 a0 t297 t307 (wrap64 (x6_1 + 1)) t300 t301)) = some r := by rw [if_neg (show ¬ (false = true) by decide)] at H; exact H
                          clear H
                          have H := H1
                          clear H1
                          by_cases c60 : t303 = 5
                          · rw [if_pos c60] at H
                            have c60b0 : (t303 == 5) = true := beq_iff_eq.mpr c60
                            have c60b1 : (t303 != 5) = false := bne_eq_false_iff_eq.mpr c60
                            clear c60
                            replace H := Option.bind_eq_some_iff.mp H
                            obtain ⟨t314, A610, H⟩ := H
                            replace H : (if t314 = true then (if (t300 == 0 && (t301 == 0)) = true then (if x6_1 = (wrap64 ((t297.length : Int) - 1)) then (if t307 = (a0.size : Int) then (some (t306 == (a0.size : Int))) else (none)) else (none)) else (none)) else (none)) = some r := H
                            have A61 := Aside0.mk A610
                            clear A610
                            by_cases c62 : t314 = true
                            · subst c62
                              have H1 : (if (t300 == 0 && (t301 == 0)) = true then (if x6_1 = (wrap64 ((t297.length : Int) - 1)) then (if t307 = (a0.size : Int) then (some (t306 == (a0.size : Int))) else (none)) else (none)) else (none)) = some r := by rw [if_pos rfl] at H; exact H
                              clear H
                              have H := H1
                              clear H1
                              by_cases c63 : (t300 == 0 && (t301 == 0)) = true
                              · rw [if_pos c63] at H
                                have c63b0 : (t300 == 0 && (t301 == 0)) = true := c63
                                (try (have c63b1 : decide (t300 = 0 && (t301 == 0)) = true := by simpa using c63))
                                (try (have c63b2 : (t300 == 0 && (t301 == 0)) = true := by simpa using c63))
                                clear c63
                                by_cases c64 : x6_1 = (wrap64 ((t297.length : Int) - 1))
                                · rw [if_pos c64] at H
                                  have c64b0 : (x6_1 == (wrap64 ((t297.length : Int) - 1))) = true := beq_iff_eq.mpr c64
                                  have c64b1 : (x6_1 != (wrap64 ((t297.length : Int) - 1))) = false := bne_eq_false_iff_eq.mpr c64
                                  clear c64
                                  by_cases c65 : t307 = (a0.size : Int)
                                  · rw [if_pos c65] at H
                                    have c65b0 : (t307 == (a0.size : Int)) = true := beq_iff_eq.mpr c65
                                    have c65b1 : (t307 != (a0.size : Int)) = false := bne_eq_false_iff_eq.mpr c65
                                    clear c65
                                    obtain rfl := Option.some.inj H
                                    have hnb66 := NB310_302.out
                                    have hnc66 := NB302_310.out
                                    have hnb67 := NB310_311.out
                                    have hnc67 := NB311_310.out
                                    have hcz68_0 : wc.cell? ⟨gb310, 0, none⟩ = some (.int .i64 t303) := (blk_cell BK310.out 0).trans rfl
                                    have hcz68_1 : wc.cell? ⟨gb310, 1, none⟩ = some (.string t304) := (blk_cell BK310.out 1).trans rfl
                                    have hcz68_2 : wc.cell? ⟨gb310, 2, none⟩ = some (.int .i64 t305) := (blk_cell BK310.out 2).trans rfl
                                    have hcz68_3 : wc.cell? ⟨gb310, 3, none⟩ = some (.int .i64 t306) := (blk_cell BK310.out 3).trans rfl
                                    have hfz68_0 := blk_frozen BK310.out 0
                                    have hfz68_1 := blk_frozen BK310.out 1
                                    have hfz68_2 := blk_frozen BK310.out 2
                                    have hfz68_3 := blk_frozen BK310.out 3
                                    go_wp2_with (first | (go_at_call 32; (with_reducible refine (salchowlaw09_awake.calls kj46  true _ ?side1 A61.out).mono ?_); (case side1 => exact Gl.below hG (bl3_ HB.out GE302.out GE310.out GE311.out)); rintro e w69 ⟨rfl, hb⟩; have n0_ := Aside0.mk (Kd.R_below (by (with_reducible repeat (first | apply Kd.R_alloc | apply Kd.R_drewN | apply Kd.R_drew)); exact HO_3.out) hb); have n1_ := Aside0.mk (blk_below (g := gb302) (o := .cells #[.int .i64 t300, .int .i64 t301] 26 (0, 0)) (bk_ BK302.out) hb); have n2_ := Aside0.mk (blk_below (g := gb310) (o := .cells #[.int .i64 t303, .string t304, .int .i64 t305, .int .i64 t306] 46 (0, 0)) (bk_ BK310.out) hb); have n3_ := Aside0.mk (blk_below (g := gb311) (o := .cells #[.int .i64 t308, .int .i64 t309] 26 (0, 0)) (bk_ BK311.out) hb); have n4_ := Aside0.mk (below_step (bl3_ HB.out GE302.out GE310.out GE311.out) hb); clear HO_3; clear BK302; clear BK310; clear BK311; clear HB; have HO_3 := n0_; have BK302 := n1_; have BK310 := n2_; have BK311 := n3_; have HB := n4_; clear n0_ n1_ n2_ n3_ n4_; (try clear hb); (try clear hb2); (try clear hk); (try clear hi); have hnb70 := NB302_311.out; have hnc70 := NB311_302.out; have hcz71_0 : w69.cell? ⟨gb302, 0, none⟩ = some (.int .i64 t300) := (blk_cell BK302.out 0).trans rfl; have hcz71_1 : w69.cell? ⟨gb302, 1, none⟩ = some (.int .i64 t301) := (blk_cell BK302.out 1).trans rfl; have hfz71_0 := blk_frozen BK302.out 0; have hfz71_1 := blk_frozen BK302.out 1; obtain ⟨Ao72, co72, eo72⟩ := Kd.R_slice HO_3.out; subst eo72; have hcz73_0 : w69.cell? ⟨gb310, 0, none⟩ = some (.int .i64 t303) := (blk_cell BK310.out 0).trans rfl; have hcz73_1 : w69.cell? ⟨gb310, 1, none⟩ = some (.string t304) := (blk_cell BK310.out 1).trans rfl; have hcz73_2 : w69.cell? ⟨gb310, 2, none⟩ = some (.int .i64 t305) := (blk_cell BK310.out 2).trans rfl; have hcz73_3 : w69.cell? ⟨gb310, 3, none⟩ = some (.int .i64 t306) := (blk_cell BK310.out 3).trans rfl; have hfz73_0 := blk_frozen BK310.out 0; have hfz73_1 := blk_frozen BK310.out 1; have hfz73_2 := blk_frozen BK310.out 2; have hfz73_3 := blk_frozen BK310.out 3))
                                    repeat (go_quiet (first | (go_at_call 32; (with_reducible refine (salchowlaw09_awake.calls kj46  true _ ?side1 A61.out).mono ?_); (case side1 => exact Gl.below hG (bl3_ HB.out GE302.out GE310.out GE311.out)); rintro e w69 ⟨rfl, hb⟩; have n0_ := Aside0.mk (Kd.R_below (by (with_reducible repeat (first | apply Kd.R_alloc | apply Kd.R_drewN | apply Kd.R_drew)); exact HO_3.out) hb); have n1_ := Aside0.mk (blk_below (g := gb302) (o := .cells #[.int .i64 t300, .int .i64 t301] 26 (0, 0)) (bk_ BK302.out) hb); have n2_ := Aside0.mk (blk_below (g := gb310) (o := .cells #[.int .i64 t303, .string t304, .int .i64 t305, .int .i64 t306] 46 (0, 0)) (bk_ BK310.out) hb); have n3_ := Aside0.mk (blk_below (g := gb311) (o := .cells #[.int .i64 t308, .int .i64 t309] 26 (0, 0)) (bk_ BK311.out) hb); have n4_ := Aside0.mk (below_step (bl3_ HB.out GE302.out GE310.out GE311.out) hb); clear HO_3; clear BK302; clear BK310; clear BK311; clear HB; have HO_3 := n0_; have BK302 := n1_; have BK310 := n2_; have BK311 := n3_; have HB := n4_; clear n0_ n1_ n2_ n3_ n4_; (try clear hb); (try clear hb2); (try clear hk); (try clear hi); have hnb70 := NB302_311.out; have hnc70 := NB311_302.out; have hcz71_0 : w69.cell? ⟨gb302, 0, none⟩ = some (.int .i64 t300) := (blk_cell BK302.out 0).trans rfl; have hcz71_1 : w69.cell? ⟨gb302, 1, none⟩ = some (.int .i64 t301) := (blk_cell BK302.out 1).trans rfl; have hfz71_0 := blk_frozen BK302.out 0; have hfz71_1 := blk_frozen BK302.out 1; obtain ⟨Ao72, co72, eo72⟩ := Kd.R_slice HO_3.out; subst eo72; have hcz73_0 : w69.cell? ⟨gb310, 0, none⟩ = some (.int .i64 t303) := (blk_cell BK310.out 0).trans rfl; have hcz73_1 : w69.cell? ⟨gb310, 1, none⟩ = some (.string t304) := (blk_cell BK310.out 1).trans rfl; have hcz73_2 : w69.cell? ⟨gb310, 2, none⟩ = some (.int .i64 t305) := (blk_cell BK310.out 2).trans rfl; have hcz73_3 : w69.cell? ⟨gb310, 3, none⟩ = some (.int .i64 t306) := (blk_cell BK310.out 3).trans rfl; have hfz73_0 := blk_frozen BK310.out 0; have hfz73_1 := blk_frozen BK310.out 1; have hfz73_2 := blk_frozen BK310.out 2; have hfz73_3 := blk_frozen BK310.out 3)); try go_wp2_with (first | (go_at_call 32; (with_reducible refine (salchowlaw09_awake.calls kj46  true _ ?side1 A61.out).mono ?_); (case side1 => exact Gl.below hG (bl3_ HB.out GE302.out GE310.out GE311.out)); rintro e w69 ⟨rfl, hb⟩; have n0_ := Aside0.mk (Kd.R_below (by (with_reducible repeat (first | apply Kd.R_alloc | apply Kd.R_drewN | apply Kd.R_drew)); exact HO_3.out) hb); have n1_ := Aside0.mk (blk_below (g := gb302) (o := .cells #[.int .i64 t300, .int .i64 t301] 26 (0, 0)) (bk_ BK302.out) hb); have n2_ := Aside0.mk (blk_below (g := gb310) (o := .cells #[.int .i64 t303, .string t304, .int .i64 t305, .int .i64 t306] 46 (0, 0)) (bk_ BK310.out) hb); have n3_ := Aside0.mk (blk_below (g := gb311) (o := .cells #[.int .i64 t308, .int .i64 t309] 26 (0, 0)) (bk_ BK311.out) hb); have n4_ := Aside0.mk (below_step (bl3_ HB.out GE302.out GE310.out GE311.out) hb); clear HO_3; clear BK302; clear BK310; clear BK311; clear HB; have HO_3 := n0_; have BK302 := n1_; have BK310 := n2_; have BK311 := n3_; have HB := n4_; clear n0_ n1_ n2_ n3_ n4_; (try clear hb); (try clear hb2); (try clear hk); (try clear hi); have hnb70 := NB302_311.out; have hnc70 := NB311_302.out; have hcz71_0 : w69.cell? ⟨gb302, 0, none⟩ = some (.int .i64 t300) := (blk_cell BK302.out 0).trans rfl; have hcz71_1 : w69.cell? ⟨gb302, 1, none⟩ = some (.int .i64 t301) := (blk_cell BK302.out 1).trans rfl; have hfz71_0 := blk_frozen BK302.out 0; have hfz71_1 := blk_frozen BK302.out 1; obtain ⟨Ao72, co72, eo72⟩ := Kd.R_slice HO_3.out; subst eo72; have hcz73_0 : w69.cell? ⟨gb310, 0, none⟩ = some (.int .i64 t303) := (blk_cell BK310.out 0).trans rfl; have hcz73_1 : w69.cell? ⟨gb310, 1, none⟩ = some (.string t304) := (blk_cell BK310.out 1).trans rfl; have hcz73_2 : w69.cell? ⟨gb310, 2, none⟩ = some (.int .i64 t305) := (blk_cell BK310.out 2).trans rfl; have hcz73_3 : w69.cell? ⟨gb310, 3, none⟩ = some (.int .i64 t306) := (blk_cell BK310.out 3).trans rfl; have hfz73_0 := blk_frozen BK310.out 0; have hfz73_1 := blk_frozen BK310.out 1; have hfz73_2 := blk_frozen BK310.out 2; have hfz73_3 := blk_frozen BK310.out 3)))
                                    go_ret
                                    exact ⟨er_, bl3_ HB.out GE302.out GE310.out GE311.out⟩
                                  · rw [if_neg c65] at H
                                    exact absurd H (by simp)
                                · rw [if_neg c64] at H
                                  exact absurd H (by simp)
                              · rw [if_neg c63] at H
                                exact absurd H (by simp)
                            · replace c62 := Bool.eq_false_iff.mpr c62
                              subst c62
                              have H1 : (none) = some r := by rw [if_neg (show ¬ (false = true) by decide)] at H; exact H
                              clear H
                              have H := H1
                              clear H1
                              exact absurd H (by simp)
                          · rw [if_neg c60] at H
                            have c60b0 : (t303 == 5) = false := beq_eq_false_iff_ne.mpr c60
                            have c60b1 : (t303 != 5) = true := bne_iff_ne.mpr c60
                            have H' := Aside0.mk H
                            clear H
                            have hnb74 := NB310_302.out
                            have hnc74 := NB302_310.out
                            have hnb75 := NB310_311.out
                            have hnc75 := NB311_310.out
                            have hcz76_0 : wc.cell? ⟨gb310, 0, none⟩ = some (.int .i64 t303) := (blk_cell BK310.out 0).trans rfl
                            have hcz76_1 : wc.cell? ⟨gb310, 1, none⟩ = some (.string t304) := (blk_cell BK310.out 1).trans rfl
                            have hcz76_2 : wc.cell? ⟨gb310, 2, none⟩ = some (.int .i64 t305) := (blk_cell BK310.out 2).trans rfl
                            have hcz76_3 : wc.cell? ⟨gb310, 3, none⟩ = some (.int .i64 t306) := (blk_cell BK310.out 3).trans rfl
                            have hfz76_0 := blk_frozen BK310.out 0
                            have hfz76_1 := blk_frozen BK310.out 1
                            have hfz76_2 := blk_frozen BK310.out 2
                            have hfz76_3 := blk_frozen BK310.out 3
                            go_wp2
                            repeat (go_quiet (fail); try go_wp2)
                            go_roundg kj46
                            case measure => have := HK1.out; have := HJ26.out; have := HJ46.out; omega
                            case rel => exact ⟨(t307), (wrap64 (x6_1 + 1)), (by first | rfl | (simp; done) | (simp [*]; done) | (simp <;> rfl)), (by first | rfl | (simp; done) | (simp [*]; done) | (simp <;> rfl)), H', ⟨by have := HK1.out; have := HJ26.out; have := HJ46.out; omega⟩, ⟨by (with_reducible repeat (first | apply Kd.R_alloc | apply Kd.R_drewN | apply Kd.R_drew)); exact Kd.R_mono HO_3.out (fun _ hk => trivial)⟩, ⟨by (with_reducible repeat (first | refine blk_drewN ?_ _ | refine blk_drew ?_ | refine blk_alloc ?_ _)); exact BK302.out⟩, ⟨bl3_ HB.out GE302.out GE310.out GE311.out⟩⟩
        · rw [if_neg c9] at H
          exact absurd H (by simp)
/-- THE ONE PURE STATEMENT of salchowlaw09_LexerSteps: yours. -/
def salchowlaw09_LexerSteps.Pure : Prop := ∀ (a0 : ByteArray), a0.size ≤ 140737488351232 → ∃ k, salchowlaw09_LexerSteps.f k a0 = some true
theorem salchowlaw09_LexerSteps.walk (P : salchowlaw09_LexerSteps.Pure) (a0 : ByteArray) (w : World) (hG : Gl w) (w0 : a0.size ≤ 140737488351232) :
    Calls Tryd.prog 13 #[.string a0] w fun e w' => e = .returned (.bool true) ∧ Below w.heap.size w w' := by
  obtain ⟨k, h⟩ := P a0 w0
  refine (salchowlaw09_LexerSteps.calls k a0 true w hG h).mono ?_
  rintro e w' ⟨rfl, hd⟩
  exact ⟨rfl, hd⟩
end Go.Proofs.YtkifdadhojbohaaDoor.Pr
namespace Go.Proofs.YtkifdadhojbohaaDoor.Pu
open Go.RowKit Go.Proofs.YtkifdadhojbohaaDoor Go.Proofs.YtkifdadhojbohaaDoor.Pr Go.Proofs.YtkifdadhojbohaaDoorW.PrintWords Go.Proofs.YtkifdadhojbohaaDoorW.PrintLast
theorem Next_f (s : ByteArray) (hs : s.size ≤ 2000) (j : Nat) (hj : j ≤ s.size) : Ev (fun k => lexer_Next.f k s j) (nextT s.size (skipL false ((lst s).drop j))) := by
  unfold lexer_Next.f
  exact Ev.ifn (by omega) (Ev.ifn (by omega) (Ev.ifn (by omega) (Ev.bind (next_f s (by omega) j hj) (Ev.now _))))
/-- The rounds behind xs, where ts are still to come. -/
theorem steps_ok (s : ByteArray) (hs : s.size ≤ 2000) : ∀ (f i : Nat) (l : List UInt8) (xs : List S46) (ts : List Tok), i ≤ s.size → (lst s).drop i = l → l.length < f → lexL f l = .ok ts → xs.length ≤ i →
    Ev (fun k => salchowlaw09_LexerSteps.l0 k s (xs ++ ts.map (Tok.at_ s.size)) i xs.length 0 0) true := by
  intro f
  induction f with
  | zero => intro i l xs ts hi hl hf; omega
  | succ f ih =>
    intro i l xs ts hi hl hf hx ha
    have hn := Next_f s hs i hi
    rw [hl] at hn
    have hsk := skipL_suffix l false
    unfold lexL at hx
    dsimp only at hx
    generalize skipL false l = l1 at hsk hx hn
    refine Ev.succ ?_
    simp only [salchowlaw09_LexerSteps.l0]
    refine Ev.ifp (by rw [wrap64_of (by omega) (by omega)]; omega) (Ev.bind hn ?_)
    unfold nextT
    by_cases hc : (tokL l1).code = 0
    · have hc2 : ¬ (tokL l1).code ≠ 0 := by simp [hc]
      rw [if_neg hc2] at hx
      rw [if_pos hc]
      refine Ev.ifn (by simp) ?_
      obtain ⟨h1, h2⟩ := tok_suffix l1 hc
      have hls : l <:+ lst s := by rw [← hl]; exact List.drop_suffix _ _
      obtain ⟨j, hj1, hj2, hj3⟩ := suffix_at (h1.trans (hsk.trans hls))
      have hle := hsk.length_le
      have hle1 := h1.length_le
      have hll : l.length = s.size - i := by rw [← hl, List.length_drop, lst_length]
      have hjl : (tokL l1).rest.length = s.size - j := by rw [← hj2, List.length_drop, lst_length]
      dsimp only
      rw [hj3]
      have j2 : ∀ (b : Tok) (us : List Tok), ts = b :: us → b.at_ s.size = ⟨(tokL l1).kind, str (tokL l1).text, (tokL l1).n, (s.size : Int) - l1.length⟩ →
          (Ev (fun k => salchowlaw09_LexerSteps.j2 k s (xs ++ ts.map (Tok.at_ s.size)) xs.length j false 0 0 (tokL l1).kind (str (tokL l1).text) (tokL l1).n ((s.size : Int) - l1.length)) true) →
          Ev (fun k => salchowlaw09_LexerSteps.j1 k s (xs ++ ts.map (Tok.at_ s.size)) xs.length j false 0 0 (tokL l1).kind (str (tokL l1).text) (tokL l1).n ((s.size : Int) - l1.length)) true := by
        intro b us hts hb h
        refine Ev.succ ?_
        simp only [salchowlaw09_LexerSteps.j1]
        have hlen : (xs ++ ts.map (Tok.at_ s.size)).length = xs.length + us.length + 1 := by rw [hts]; simp; omega
        refine Ev.ifn (by decide) (Ev.ifn (by decide) (Ev.ifn (by rw [hlen]; omega) (Ev.ifp (by omega) (Ev.ifp (by rw [hlen]; omega) ?_))))
        have hrd : rd_T46 (xs ++ ts.map (Tok.at_ s.size)) ((xs.length : Nat) : Int) = b.at_ s.size := by
          rw [hts, List.map_cons]; exact rd_mid _ _ _
        rw [hrd, hb]
        simpa using h
      refine Ev.ifn (by omega) ?_
      rw [decide_eq_false (by omega)]
      by_cases h0 : l1 = []
      · rw [if_pos h0] at hx
        simp only [Except.ok.injEq] at hx
        subst hx h0
        refine j2 _ [] rfl (by simp [Tok.at_, tokL]) (Ev.succ ?_)
        simp only [salchowlaw09_LexerSteps.j2]
        have hj : j = s.size := by
          simp [tokL] at hjl
          omega
        refine Ev.ifn (by decide) (Ev.ifp rfl (Ev.bind awake_f (Ev.ifp rfl (Ev.ifp rfl (Ev.ifp ?_ (Ev.ifp (by omega) (Ev.ret (by simp))))))))
        rw [wrap64_of (by simp <;> omega) (by simp <;> omega)]
        simp
      · rw [if_neg h0] at hx
        obtain ⟨h3, h4⟩ := h2 h0
        cases hy : lexL f (tokL l1).rest with
        | error e => rw [hy] at hx; cases hx
        | ok us =>
          rw [hy] at hx
          simp only [Except.ok.injEq] at hx
          subst hx
          refine j2 _ us rfl (by simp [Tok.at_]) (Ev.succ ?_)
          simp only [salchowlaw09_LexerSteps.j2]
          refine Ev.ifn (by decide) (Ev.ifn h4 ?_)
          have := ih j _ (xs ++ [(⟨(tokL l1).kind, (tokL l1).text, (tokL l1).n, l1.length⟩ : Tok).at_ s.size]) us hj1 hj2 (by omega) hy (by simp; omega)
          rw [wrap_nat xs.length (by omega)]
          simpa using this
    · rw [if_pos (show (tokL l1).code ≠ 0 from hc)] at hx
      cases hx
/-- The rounds where the source is refused. -/
theorem steps_err (s : ByteArray) (hs : s.size ≤ 2000) (e : Int × Nat) (he : e.1 ≠ 0) : ∀ (f i m : Nat) (l : List UInt8), i ≤ s.size → (lst s).drop i = l → l.length < f → lexL f l = .error e → m ≤ i →
    Ev (fun k => salchowlaw09_LexerSteps.l0 k s [] i m e.1 ((s.size : Int) - e.2)) true := by
  intro f
  induction f with
  | zero => intro i m l hi hl hf; omega
  | succ f ih =>
    intro i m l hi hl hf hx ha
    have hn := Next_f s hs i hi
    rw [hl] at hn
    have hsk := skipL_suffix l false
    unfold lexL at hx
    dsimp only at hx
    generalize skipL false l = l1 at hsk hx hn
    refine Ev.succ ?_
    simp only [salchowlaw09_LexerSteps.l0]
    refine Ev.ifp (by rw [wrap64_of (by omega) (by omega)]; omega) (Ev.bind hn ?_)
    unfold nextT
    by_cases hc : (tokL l1).code = 0
    · have hc2 : ¬ (tokL l1).code ≠ 0 := by simp [hc]
      rw [if_neg hc2] at hx
      rw [if_pos hc]
      refine Ev.ifn (by simp) ?_
      obtain ⟨h1, h2⟩ := tok_suffix l1 hc
      have hls : l <:+ lst s := by rw [← hl]; exact List.drop_suffix _ _
      obtain ⟨j, hj1, hj2, hj3⟩ := suffix_at (h1.trans (hsk.trans hls))
      have hle := hsk.length_le
      have hle1 := h1.length_le
      have hll : l.length = s.size - i := by rw [← hl, List.length_drop, lst_length]
      have hjl : (tokL l1).rest.length = s.size - j := by rw [← hj2, List.length_drop, lst_length]
      dsimp only
      rw [hj3]
      refine Ev.ifn (by omega) ?_
      rw [decide_eq_false (by omega)]
      by_cases h0 : l1 = []
      · rw [if_pos h0] at hx
        cases hx
      · rw [if_neg h0] at hx
        obtain ⟨h3, h4⟩ := h2 h0
        cases hy : lexL f (tokL l1).rest with
        | ok us => rw [hy] at hx; cases hx
        | error e2 =>
          rw [hy] at hx
          cases hx
          refine Ev.succ ?_
          simp only [salchowlaw09_LexerSteps.j1]
          refine Ev.ifn (by decide) (Ev.ifp (by simp [he]) (Ev.ifn h4 (Ev.ifp (by simp) ?_)))
          rw [wrap_nat m (by omega)]
          exact ih j (m + 1) _ hj1 hj2 (by omega) hy (by omega)
    · rw [if_pos (show (tokL l1).code ≠ 0 from hc)] at hx
      rw [if_neg hc]
      cases hx
      exact Ev.ifp (by simp [hc]) (Ev.bind awake_f (Ev.ifp rfl (Ev.ifp (by simp) (Ev.ret (by simp)))))
theorem lexerSteps : salchowlaw09_LexerSteps.Pure := by
  intro s _
  apply Ev.rounds
  unfold salchowlaw09_LexerSteps.f
  by_cases hs : (s.size : Int) > 2000
  · exact Ev.ifp hs (Ev.bind awake_f (Ev.now _))
  · refine Ev.ifn hs (Ev.bind (Lex_f s (by omega)) ?_)
    cases hx : lexL (s.size + 1) (lst s) with
    | error e =>
      exact steps_err s (by omega) e (lexL_code _ _ _ hx) (s.size + 1) 0 0 (lst s) (by omega) rfl (by rw [lst_length]; omega) hx (by omega)
    | ok ts =>
      exact steps_ok s (by omega) (s.size + 1) 0 (lst s) [] ts (by omega) rfl (by rw [lst_length]; omega) hx (by simp)
end Go.Proofs.YtkifdadhojbohaaDoor.Pu
namespace Go.Proofs.YtkifdadhojbohaaDoor.lexerSteps
open Go.ChangeShapes Go.WideShapes Go.ChangeAt Go.RowKit Rk
open Go.ChangeMaps (open_string shut_string)
theorem c09 : (Rows.lexerStepsRow.inPlace == Tryd.prog.inPlace 13) = true := by kernel_rfl
theorem c10 : (Rows.lexerStepsRow.unfollowed == Tryd.prog.unfollowed 13) = true := by kernel_rfl
theorem c11 : (Rows.lexerStepsRow.recurses == Tryd.prog.recurses 13) = true := by kernel_rfl
theorem c12 : (Rows.lexerStepsRow.named == Tryd.prog.varsNamed 13) = true := by kernel_rfl
theorem facts : joinedFacts Tryd.prog 13 Tryd.f13 Rows.lexerStepsSpec Rows.lexerStepsRow = true :=
  facts_of _ _ _ _ _ (by kernel_rfl) out_ rowed_ (by kernel_rfl) (by kernel_rfl) rfl (by kernel_rfl) rfl (by kernel_rfl) c09 c10 c11 c12 (by kernel_rfl) (by kernel_rfl) (by kernel_rfl) (by kernel_rfl) (by kernel_rfl)
    (by kernel_rfl) (by kernel_rfl) (by kernel_rfl) (by kernel_rfl) (by kernel_rfl) (by kernel_rfl) heard_ enter_ (by kernel_rfl) (by kernel_rfl) (by kernel_rfl) (by kernel_rfl) (by kernel_rfl) (by kernel_rfl)
theorem goes : false = Rows.lexerStepsRow.goesBy Tryd.prog := by kernel_rfl
set_option maxRecDepth 100000 in
theorem lifted (os : Os) (started : os.Started) (H : Type) (enc : TypeId × Value → H) :
    ReturnsInHanded {} Tryd.checked os 13 .any (fun w args => (Rows.lexerStepsSpec.pre enc Tryd.prog Tryd.f13 [] false w args ∧ laidMetH Tryd.prog laidB w) ∧ sizedMet enc Tryd.prog Tryd.f13 (OpenSpec.ofChange Rows.lexerStepsSpec) false w args)
      (Rows.lexerStepsSpec.post enc Tryd.prog Tryd.f13 false true false false) := by
  refine returnsInHanded_of_change_and (C := Tryd.checked) (X := fun w _ => laidMetH Tryd.prog laidB w) (fun _ _ _ hh h => h.of_heap hh) own started (by kernel_rfl) Tryd.func13
    (ChangeSpec.witness_shaped (enc := enc) (C := Tryd.checked) (os := os) (X := fun w _ => laidMetH Tryd.prog laidB w) false (wB os) #[.string ByteArray.empty] 8 (World.laidAll_os _ _ _)
      (World.shaped_of_ZipB (by kernel_rfl) (by kernel_rfl)) (by kernel_rfl) (by kernel_rfl) (by kernel_rfl) (met_B os _)) ?_
  intro W base args ds gs before hval0 hW _ hsz0 hL _
  have hsz : (DataW.weightsEach Tryd.prog (Tryd.f13.params.toList ++ Rows.lexerStepsSpec.plain.varTypes Tryd.prog) (ds ++ gs)).all (· ≤ reachBytes) = true := hsz0
  have hval : ∀ (j : Nat) t v, Tryd.f13.params[j]? = some t → args[j]? = some v → Value.okWide Tryd.prog W .any base t v := hval0
  have hW' := hW
  obtain ⟨p, q, hA0, hV, rfl, _, _⟩ := hW
  have hA : DataW.TrodAll enc Tryd.prog W 0 (fun _ => true) true Tryd.f13.params.toList args.toList ds p := hA0
  rw [Tryd.params13] at hA hval hsz
  obtain ⟨v0, vs0, d0, ds0, p0, q0, hargs, rfl, rfl, h0, r0⟩ := trodAll_cons hA
  obtain ⟨rfl, rfl, rfl⟩ := trodAll_nil r0
  obtain rfl : args = #[v0] := by cases args; simp_all
  obtain ⟨rfl, rfl⟩ := trodVars_none hV
  obtain ⟨a0, rfl, rfl, rfl, y0⟩ := open_string Tryd.underlying9 (hval 0 9 v0 rfl rfl) h0
  have w0 : a0.size ≤ 140737488351232 := by
    have z := sized_string hsz (j := 0) (t := 9) rfl rfl
    rw [Array.length_toList] at z
    exact z
  clear hA0 hval0 hsz0 hsz
  refine (Pr.salchowlaw09_LexerSteps.walk Pu.lexerSteps a0 W (gl_B hL) w0).mono fun e W' ⟨he, bel⟩ => ?_
  subst he
  exact ⟨_, rfl, _, _, _, [], _, [], hW', trodAll_mk1 (shut_bool Tryd.underlying4 _), (trodAll_cons_mk (shut_string Tryd.underlying9 y0) trodAll_mk0), rfl, bel.frame _, fun h => by cases h⟩
theorem over : Rows.lexerStepsRow.holds Tryd.pinned (OpenSpec.ofChange Rows.lexerStepsSpec) :=
  OpenClaim.holds_of_wide 13 Tryd.f13 rfl rfl rfl rfl rfl rfl rfl ⟨rfl, rfl, rfl, rfl, rfl⟩ rfl rfl rfl rfl rfl (by kernel_rfl) Tryd.func13 facts
    (of_decide_eq_true (by kernel_rfl)) (by unfold Func.isWrapper; first | (rw [if_pos (by decide +kernel)]; kernel_rfl) | (rw [if_neg (by decide +kernel)]; exact ⟨rfl, rfl⟩))
    (fun os started H enc _ => lifted os started H enc)
theorem card : Rows.LexerStepsCardSaid :=
  Claim7.holds_tied_plain_at .later [] [.data, .data, .data, .data, .sentinel, .sentinel, .pinned] true (true, "74d2011260c70b611c86c4d3b7f5d11cc5fefff18c715f175ff3522b41f9dd0c") true
    over (fun _ h => by cases h) (by kernel_rfl) (fun _ h => by cases h) lexerSteps_row_tie rfl ⟨rfl, rfl⟩ mainIs_ rfl
    (fun f fn hf hfn => by
      obtain rfl : f = 13 := Option.some.inj ((show Tryd.prog.funcNamed "salchow/salchowlaw09.LexerSteps" = some 13 by kernel_rfl).symm.trans hf) |>.symm
      obtain rfl : fn = Tryd.f13 := (Option.some.inj (Tryd.func13.symm.trans hfn)).symm
      exact ⟨looks_, fun j t ht => by
        rw [Tryd.params13] at ht
        have hm : t ∈ [9] := by simpa using Array.mem_of_getElem? ht
        have hall : ([9].all fun u => !Tryd.prog.wantsStandIn u) = true := by kernel_rfl
        exact (show Tryd.prog.wantsStandIn t = false by simpa using List.all_eq_true.1 hall t hm)⟩)
    goes
#print axioms card
end Go.Proofs.YtkifdadhojbohaaDoor.lexerSteps
