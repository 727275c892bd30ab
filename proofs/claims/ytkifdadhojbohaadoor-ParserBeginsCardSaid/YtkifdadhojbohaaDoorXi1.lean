/- Joined out of the texts of this proof that bear the names PrF6 PwJb RowParserBegins: what each shows stands over it there. -/
import Derived.Test.YtkifdadhojbohaaDoorXk1
import Derived.Test.YtkifdadhojbohaaDoorXt1
import Derived.Test.YtkifdadhojbohaaDoorXq1
import Derived.Test.YtkifdadhojbohaaDoorXp1
import Derived.Test.YtkifdadhojbohaaDoorXr1
import Derived.Test.YtkifdadhojbohaaDoorCards
import Derived.Test.YtkifdadhojbohaaDoorTie
import Derived.WalkKit
import Derived.OpenShut
import Derived.ShutString
import Derived.ChangeOld
import Derived.SizedLaws
import Derived.SevenTiedAt
import Derived.Handed
import Derived.LaidLaws
set_option linter.unusedVariables false
set_option linter.unusedSimpArgs false
namespace Go.Proofs.YtkifdadhojbohaaDoor.Pr
open Go.Proofs.YtkifdadhojbohaaDoor
open Go.RowKit Go.Proofs.YtkifdadhojbohaaDoorW.PrintWords Go.Proofs.YtkifdadhojbohaaDoorW.PrintLast Go.Proofs.YtkifdadhojbohaaDoorW.PrintMore
attribute [local go_sem] max2_int min2_int max_two min_two max_three min_three max_four min_four   -- for this text's walks alone
set_option linter.unusedVariables false
set_option linter.unusedSimpArgs false
/-! ### salchowlaw10_ParserBegins: function 6 -/
mutual
def salchowlaw10_ParserBegins.j0 : Nat → ByteArray → Int → List (S41) → Bool → Option (Bool)
 | 0, _, _, _, _ => none
 | k + 1, x0, x1, x5, x32 => if x32 = true then (some true) else (if 0 ≤ x1 then (if x1 < (x5.length : Int) then (if ((rd_T41 x5 x1).f4) < 0 then (salchowlaw10_ParserBegins.j1 k x0 x1 x5 ((rd_T41 x5 x1).f4) true) else (salchowlaw10_ParserBegins.j1 k x0 x1 x5 ((rd_T41 x5 x1).f4) (decide (((rd_T41 x5 x1).f4) > (x0.size : Int))))) else (none)) else (none))
def salchowlaw10_ParserBegins.j1 : Nat → ByteArray → Int → List (S41) → Int → Bool → Option (Bool)
 | 0, _, _, _, _, _ => none
 | k + 1, x0, x1, x5, x7, x45 => if x45 = true then (some false) else (if 0 ≤ x7 then (if x7 ≤ (x0.size : Int) then ((parser_Parse.f k (x0.extract 0 (x7 : Int).toNat)).bind fun bt177 => (if bt177.2.1 = 0 then (if 0 ≤ x1 then (if x1 ≤ (x5.length : Int) then ((ref10_Equal.f k bt177.1 (x5.take (x1 : Int).toNat) true).bind fun t187 => (some t187)) else (none)) else (none)) else (some false))) else (none)) else (none))
end
def salchowlaw10_ParserBegins.f (k : Nat) (a0 : ByteArray) (a1 : Int) : Option (Bool) := (salchowlaw10_awake.f k).bind fun t169 => (if t169 = true then (if (a0.size : Int) > 1500 then (some true) else ((parser_Parse.f k a0).bind fun bt170 => (if bt170.2.1 = 0 then (if a1 < 0 then (salchowlaw10_ParserBegins.j0 k a0 a1 bt170.1 true) else (salchowlaw10_ParserBegins.j0 k a0 a1 bt170.1 (decide (a1 ≥ (bt170.1.length : Int))))) else (salchowlaw10_ParserBegins.j0 k a0 a1 bt170.1 true)))) else (some false))
theorem salchowlaw10_ParserBegins.mono_l : ∀ k, (∀ y0 y1 y2 y3, LeO (salchowlaw10_ParserBegins.j0 k y0 y1 y2 y3) (salchowlaw10_ParserBegins.j0 (k + 1) y0 y1 y2 y3)) ∧ (∀ y0 y1 y2 y3 y4, LeO (salchowlaw10_ParserBegins.j1 k y0 y1 y2 y3 y4) (salchowlaw10_ParserBegins.j1 (k + 1) y0 y1 y2 y3 y4))
 | 0 => ⟨fun _ _ _ _ r h => by simp [salchowlaw10_ParserBegins.j0] at h, fun _ _ _ _ _ r h => by simp [salchowlaw10_ParserBegins.j1] at h⟩
 | k + 1 => by
  obtain ⟨ih0, ih1⟩ := salchowlaw10_ParserBegins.mono_l k
  refine ⟨?_, ?_⟩
  ·
   intro y0 y1 y2 y3
   unfold salchowlaw10_ParserBegins.j0
   repeat' first
   | (with_reducible exact ih0 _ _ _ _)
   | (with_reducible exact ih1 _ _ _ _ _)
   | (with_reducible exact parser_Parse.mono _ _)
   | (with_reducible exact ref10_Equal.mono _ _ _ _)
   | (with_reducible exact salchowlaw10_awake.mono _)
   | (with_reducible exact LeO.refl _)
   | (with_reducible exact LeO.none _)
   | (with_reducible refine LeO.ite ?_ ?_)
   | (with_reducible refine LeO.bind ?_ (fun _ => ?_))
   | exact ih0 _ _ _ _
   | exact ih1 _ _ _ _ _
   | exact parser_Parse.mono _ _
   | exact ref10_Equal.mono _ _ _ _
   | exact salchowlaw10_awake.mono _
   | exact LeO.none _
   | refine LeO.ite ?_ ?_
   | refine LeO.bind ?_ (fun _ => ?_)
  ·
   intro y0 y1 y2 y3 y4
   unfold salchowlaw10_ParserBegins.j1
   repeat' first
   | (with_reducible exact ih0 _ _ _ _)
   | (with_reducible exact ih1 _ _ _ _ _)
   | (with_reducible exact parser_Parse.mono _ _)
   | (with_reducible exact ref10_Equal.mono _ _ _ _)
   | (with_reducible exact salchowlaw10_awake.mono _)
   | (with_reducible exact LeO.refl _)
   | (with_reducible exact LeO.none _)
   | (with_reducible refine LeO.ite ?_ ?_)
   | (with_reducible refine LeO.bind ?_ (fun _ => ?_))
   | exact ih0 _ _ _ _
   | exact ih1 _ _ _ _ _
   | exact parser_Parse.mono _ _
   | exact ref10_Equal.mono _ _ _ _
   | exact salchowlaw10_awake.mono _
   | exact LeO.none _
   | refine LeO.ite ?_ ?_
   | refine LeO.bind ?_ (fun _ => ?_)
theorem salchowlaw10_ParserBegins.mono : ∀ a0 a1 k, LeO (salchowlaw10_ParserBegins.f k a0 a1) (salchowlaw10_ParserBegins.f (k + 1) a0 a1) := by
 intro a0 a1 k
 obtain ⟨ih0, ih1⟩ := salchowlaw10_ParserBegins.mono_l k
 unfold salchowlaw10_ParserBegins.f
 repeat' first
   | (with_reducible exact ih0 _ _ _ _)
   | (with_reducible exact ih1 _ _ _ _ _)
   | (with_reducible exact parser_Parse.mono _ _)
   | (with_reducible exact ref10_Equal.mono _ _ _ _)
   | (with_reducible exact salchowlaw10_awake.mono _)
   | (with_reducible exact LeO.refl _)
   | (with_reducible exact LeO.none _)
   | (with_reducible refine LeO.ite ?_ ?_)
   | (with_reducible refine LeO.bind ?_ (fun _ => ?_))
   | exact ih0 _ _ _ _
   | exact ih1 _ _ _ _ _
   | exact parser_Parse.mono _ _
   | exact ref10_Equal.mono _ _ _ _
   | exact salchowlaw10_awake.mono _
   | exact LeO.none _
   | refine LeO.ite ?_ ?_
   | refine LeO.bind ?_ (fun _ => ?_)
set_option maxHeartbeats 8000000 in
set_option maxRecDepth 100000 in
theorem salchowlaw10_ParserBegins.calls (k : Nat) (a0 : ByteArray) (a1 : Int) (r : Bool) (w : World) (h : salchowlaw10_ParserBegins.f k a0 a1 = some r) :
  Calls Tryd.prog 6 #[.string a0, .int .i64 a1] w fun e w' => e = .returned (.bool r) ∧ Below w.heap.size w w' := by
 have hu26 := Tryd.underlying26
 have HB := Aside0.mk (Below.refl w.heap.size w)
 have H : ((salchowlaw10_awake.f k).bind fun t169 => (if t169 = true then (if (a0.size : Int) > 1500 then (some true) else ((parser_Parse.f k a0).bind fun bt170 => (if bt170.2.1 = 0 then (if a1 < 0 then (salchowlaw10_ParserBegins.j0 k a0 a1 bt170.1 true) else (salchowlaw10_ParserBegins.j0 k a0 a1 bt170.1 (decide (a1 ≥ (bt170.1.length : Int))))) else (salchowlaw10_ParserBegins.j0 k a0 a1 bt170.1 true)))) else (some false))) = some r := h
 clear h
 replace H := Option.bind_eq_some_iff.mp H
 obtain ⟨t169, A30, H⟩ := H
 (try dsimp only at H)
 have A3 := Aside0.mk A30
 clear A30
 by_cases c4 : t169 = true
 ·
  subst c4
  have H1 : (if (a0.size : Int) > 1500 then (some true) else ((parser_Parse.f k a0).bind fun bt170 => (if bt170.2.1 = 0 then (if a1 < 0 then (salchowlaw10_ParserBegins.j0 k a0 a1 bt170.1 true) else (salchowlaw10_ParserBegins.j0 k a0 a1 bt170.1 (decide (a1 ≥ (bt170.1.length : Int))))) else (salchowlaw10_ParserBegins.j0 k a0 a1 bt170.1 true)))) = some r := by rw [if_pos rfl] at H; exact H
  clear H
  have H := H1
  clear H1
  by_cases c5 : (a0.size : Int) > 1500
  ·
   rw [if_pos c5] at H
   have c5b0 := decide_eq_true c5
   have c5b1 : decide (1500 < a0.size) = true := decide_eq_true (by omega)
   clear c5
   obtain rfl := Option.some.inj H
   go_enter Tryd.func6, Tryd.ntmps6
   go_wp2_with (first | ((with_reducible refine gate_callee (f := 21) rfl ?_); refine goesL_ (some 10) rfl rfl Tryd.func21 (by kernel_rfl) rfl #[] rfl ga_ ?_; (with_reducible refine (salchowlaw10_awake.calls k  true _ A3.out).mono ?_); rintro e w6 ⟨rfl, hb⟩; refine ⟨_, rfl, ?_⟩; refine cut1_ (below_step (bl_ HB.out) hb) ?_; clear HB; intro HB; (try clear hb); (try clear hb2); (try clear hk); (try clear hi)))
   go_ret
   exact ⟨er_, bl_ HB.out⟩
  ·
   rw [if_neg c5] at H
   have c5b0 := decide_eq_false c5
   have c5b1 : decide (1500 < a0.size) = false := decide_eq_false (by omega)
   clear c5
   replace H := Option.bind_eq_some_iff.mp H
   obtain ⟨⟨t170, t173, t174⟩, A70, H⟩ := H
   (try dsimp only at H)
   have A7 := Aside0.mk A70
   clear A70
   have HC8 := Aside0.mk H
   clear H
   go_enter Tryd.func6, Tryd.ntmps6
   go_upto_region 6 with (first | ((with_reducible refine gate_callee (f := 21) rfl ?_); refine goesL_ (some 10) rfl rfl Tryd.func21 (by kernel_rfl) rfl #[] rfl ga_ ?_; (with_reducible refine (salchowlaw10_awake.calls k  true _ A3.out).mono ?_); rintro e w9 ⟨rfl, hb⟩; refine ⟨_, rfl, ?_⟩; have n0_ := Aside0.mk (below_step (bl_ HB.out) hb); clear HB; have HB := n0_; clear n0_; (try clear hb); (try clear hb2); (try clear hk); (try clear hi)) | ((with_reducible refine gate_callee (f := 22) rfl ?_); refine goesL_ (some 17) rfl rfl Tryd.func22 (by kernel_rfl) rfl #[.string a0] rfl ga_ ?_; (with_reducible refine (parser_Parse.calls k a0 t170 t173 t174 _ A7.out).mono ?_); rintro e w10 ⟨v171, rfl, ho0, hb⟩; refine ⟨_, rfl, ?_⟩; have n0_ := Aside0.mk (Kd.R_lower ho0 (below_size (bl_ HB.out))); have n1_ := Aside0.mk (below_step (bl_ HB.out) hb); clear HB; have HO172 := n0_; have HB := n1_; clear n0_ n1_; (try clear hb); (try clear hb2); (try clear hk); (try clear hi); (try clear ho0)) | ((with_reducible refine gate_dst (N := 6) rfl ?_); (try (refine gate_guard (by rfl) ?_; dsimp only)); refine bx_ (N := 6) (cs := #[.int .i64 0, .int .i64 0]) (t := 26) ?_; intro gb175 hg w11 hbox hb; have n0_ := Aside0.mk (Kd.R_below (rR_ HO172.out) hb); have n1_ := Aside0.mk (below_step (bl_ HB.out) hb); have n2_ := Aside0.mk (hbox); have n3_ := Aside0.mk (bz_ (w := w) hg (bl_ HB.out)); have n4_ := Aside0.mk (bz_ (w := w) hg (bl_ HB.out)); clear HO172; clear HB; have HO172 := n0_; have HB := n1_; have BK175 := n2_; have GW175 := n3_; have GE175 := n4_; clear n0_ n1_ n2_ n3_ n4_; clear hb hbox hg; obtain ⟨hcz12_0, hcz12_1, hfz12_0, hfz12_1⟩ := cq2_ BK175.out))
   (try simp only [Act.put, List.setIfInBounds_toArray, List.set_cons_zero, List.set_cons_succ])
   go_cut [32] (fun v32 wc => ∃ (kq : Nat) (x32_7 : Bool), v32 = .bool x32_7 ∧ Aside0 (salchowlaw10_ParserBegins.j0 kq a0 a1 t170 x32_7 = some r) ∧ Aside0 (kq ≤ k) ∧ Aside0 (Kd.R k41 41 wc w.heap.size (fun _ => True) v171 t170) ∧ Aside0 (wc.heap[gb175]? = some (.cells #[.int .i64 t173, .int .i64 t174] 26 (0, 0))) ∧ Aside0 (Below w.heap.size w wc))
   case first =>
    have H := HC8.out
    clear HC8
    by_cases c13 : t173 = 0
    ·
     rw [if_pos c13] at H
     have c13b0 := beq_iff_eq.mpr c13
     have c13b1 := bne_eq_false_iff_eq.mpr c13
     clear c13
     (first | rw [c13b0] | (simp only [i64_w, i32_w]; rw [c13b0]) | skip)
     by_cases c14 : a1 < 0
     ·
      rw [if_pos c14] at H
      have c14b0 := decide_eq_true c14
      clear c14
      have H' := Aside0.mk H
      clear H
      have hcz15_0 := cz_ (.int .i64 0) BK175.out 0
      have hcz15_1 := cz_ (.int .i64 0) BK175.out 1
      have hfz15_0 := blk_frozen BK175.out 0
      have hfz15_1 := blk_frozen BK175.out 1
      go_wp2
      go_meet
      case rel => exact ⟨_, (true), sr_, H', ⟨by first | omega | exact Nat.le_refl _⟩, ⟨by (with_reducible repeat (first | apply Kd.R_alloc | apply Kd.R_drewN | apply Kd.R_drew)); exact Kd.R_mono (Kd.R_far (p := ⟨gb175, 1, none⟩) (Kd.R_far (p := ⟨gb175, 0, none⟩) (Kd.R_types HO172.out BK175.out (by decide)) (fun _ hk => hk.2) (.int .i64 t173)) (fun _ hk => hk.2) (.int .i64 t174)) (fun _ hk => trivial)⟩, ⟨by exact put2_ (bk_ BK175.out)⟩, ⟨bl1_ HB.out GE175.out⟩⟩
     ·
      rw [if_neg c14] at H
      have c14b0 := decide_eq_false c14
      clear c14
      have H' := Aside0.mk H
      clear H
      have hcz16_0 := cz_ (.int .i64 0) BK175.out 0
      have hcz16_1 := cz_ (.int .i64 0) BK175.out 1
      have hfz16_0 := blk_frozen BK175.out 0
      have hfz16_1 := blk_frozen BK175.out 1
      obtain ⟨Ao17, co17, eo17⟩ := Kd.R_slice HO172.out
      subst eo17
      go_wp2
      go_meet
      case rel => exact ⟨_, (decide (a1 ≥ (t170.length : Int))), sr_, H', ⟨by first | omega | exact Nat.le_refl _⟩, ⟨by (with_reducible repeat (first | apply Kd.R_alloc | apply Kd.R_drewN | apply Kd.R_drew)); exact Kd.R_mono (Kd.R_far (p := ⟨gb175, 1, none⟩) (Kd.R_far (p := ⟨gb175, 0, none⟩) (Kd.R_types HO172.out BK175.out (by decide)) (fun _ hk => hk.2) (.int .i64 t173)) (fun _ hk => hk.2) (.int .i64 t174)) (fun _ hk => trivial)⟩, ⟨by exact put2_ (bk_ BK175.out)⟩, ⟨bl1_ HB.out GE175.out⟩⟩
    ·
     rw [if_neg c13] at H
     have c13b0 := beq_eq_false_iff_ne.mpr c13
     have c13b1 := bne_iff_ne.mpr c13
     (first | rw [c13b0] | (simp only [i64_w, i32_w]; rw [c13b0]) | skip)
     have H' := Aside0.mk H
     clear H
     have hcz18_0 := cz_ (.int .i64 0) BK175.out 0
     have hcz18_1 := cz_ (.int .i64 0) BK175.out 1
     have hfz18_0 := blk_frozen BK175.out 0
     have hfz18_1 := blk_frozen BK175.out 1
     go_wp2
     go_meet
     case rel => exact ⟨_, (true), sr_, H', ⟨by first | omega | exact Nat.le_refl _⟩, ⟨by (with_reducible repeat (first | apply Kd.R_alloc | apply Kd.R_drewN | apply Kd.R_drew)); exact Kd.R_mono (Kd.R_far (p := ⟨gb175, 1, none⟩) (Kd.R_far (p := ⟨gb175, 0, none⟩) (Kd.R_types HO172.out BK175.out (by decide)) (fun _ hk => hk.2) (.int .i64 t173)) (fun _ hk => hk.2) (.int .i64 t174)) (fun _ hk => trivial)⟩, ⟨by exact put2_ (bk_ BK175.out)⟩, ⟨bl1_ HB.out GE175.out⟩⟩
   case rest =>
    clear HC8
    try clear c1
    try clear c2
    try clear p2
    try clear c4
    try clear c5
    try clear c5b0
    try clear c5b1
    try clear c6
    try clear c13
    try clear c13b0
    try clear c13b1
    try clear c14
    try clear c14b0
    try clear hcz12_0
    try clear hcz12_1
    try clear hcz15_0
    try clear hcz15_1
    try clear hcz16_0
    try clear hcz16_1
    try clear hcz18_0
    try clear hcz18_1
    try clear hfz12_0
    try clear hfz12_1
    try clear hfz15_0
    try clear hfz15_1
    try clear hfz16_0
    try clear hfz16_1
    try clear hfz18_0
    try clear hfz18_1
    obtain ⟨kq, x32_7, rfl, HA, HJ7, HO_5, BK175, HB⟩ := hcut
    cases kq with
    | zero => exact absurd HA.out (by simp [salchowlaw10_ParserBegins.j0])
    | succ kj7 =>
     have H := HA.out
     clear HA
     simp only [salchowlaw10_ParserBegins.j0] at H
     by_cases c19 : x32_7 = true
     ·
      subst c19
      have H1 : (some true) = some r := by rw [if_pos rfl] at H; exact H
      clear H
      have H := H1
      clear H1
      obtain rfl := Option.some.inj H
      go_wp2
      go_ret
      exact ⟨er_, bl1_ HB.out GE175.out⟩
     ·
      replace c19 := Bool.eq_false_iff.mpr c19
      subst c19
      have H1 : (if 0 ≤ a1 then (if a1 < (t170.length : Int) then (if ((rd_T41 t170 a1).f4) < 0 then (salchowlaw10_ParserBegins.j1 kj7 a0 a1 t170 ((rd_T41 t170 a1).f4) true) else (salchowlaw10_ParserBegins.j1 kj7 a0 a1 t170 ((rd_T41 t170 a1).f4) (decide (((rd_T41 t170 a1).f4) > (a0.size : Int))))) else (none)) else (none)) = some r := by rw [if_neg (show ¬ (false = true) by decide)] at H; exact H
      clear H
      have H := H1
      clear H1
      by_cases c20 : 0 ≤ a1
      ·
       rw [if_pos c20] at H
       have c20b0 := decide_eq_true c20
       clear c20
       by_cases c21 : a1 < (t170.length : Int)
       ·
        rw [if_pos c21] at H
        have c21b0 := decide_eq_true c21
        clear c21
        have HC22 := Aside0.mk H
        clear H
        obtain ⟨Ao23, co23, eo23⟩ := Kd.R_slice HO_5.out
        subst eo23
        have p176 : 0 ≤ (a1 : Int) := dt_
        have q176 : a1 < (t170.length : Int) := dt_
        obtain ⟨ad176, A176_1, c176_1, A176_3, c176_3, e176, hx176_0, hx176_1, hx176_2, hx176_3, hx176_4, hl176_1, hi176_1, hl176_3, hi176_3⟩ := at_T41 (Kd.R_reads' HO_5.out).2.2 a1 p176 q176
        cases e176
        obtain ⟨ce176, hce176, hMe176, hcc176⟩ := Kd.R_get HO_5.out z41 a1 p176 (by first | exact q176 | exact dt_ | (have e_ := (Kd.R_reads' HO_5.out).1; omega))
        obtain ⟨ve176_1, ve176_3, rfl, ge176_1, ge176_3⟩ := k41_openM hMe176
        have hv176_1 := hcc176 1 _ rfl
        rw [add_field _ _ 1 (by omega)] at hv176_1
        replace hv176_1 := Option.some.inj (hv176_1.symm.trans hx176_1)
        rw [hv176_1] at ge176_1
        have HL176_1 := Aside0.mk (show Kd.R k46 46 _ _ _ _ ((rd_T41 t170 a1).f1) from ge176_1)
        clear hv176_1 ge176_1
        have hv176_3 := hcc176 3 _ rfl
        rw [add_field _ _ 3 (by omega)] at hv176_3
        replace hv176_3 := Option.some.inj (hv176_3.symm.trans hx176_3)
        rw [hv176_3] at ge176_3
        have HL176_3 := Aside0.mk (show Kd.R k41 41 _ _ _ _ ((rd_T41 t170 a1).f3) from ge176_3)
        clear hv176_3 ge176_3
        clear hcc176 hce176
        have HR176_1 := Aside0.mk hi176_1
        have HC176_1 := Aside0.mk hl176_1
        clear hi176_1 hl176_1
        have HR176_3 := Aside0.mk hi176_3
        have HC176_3 := Aside0.mk hl176_3
        clear hi176_3 hl176_3
        replace p176 := eq_true p176
        replace q176 := eq_true q176
        go_upto_region 9 with (fail)
        go_cut [45] (fun v45 wc => ∃ (kq : Nat) (x45_21 : Bool), v45 = .bool x45_21 ∧ Aside0 (salchowlaw10_ParserBegins.j1 kq a0 a1 t170 ((rd_T41 t170 a1).f4) x45_21 = some r) ∧ Aside0 (kq ≤ kj7) ∧ Aside0 (Kd.R k41 41 wc w.heap.size (fun _ => True) (.slice (some ad176) t170.length co23) t170) ∧ Aside0 (wc.heap[gb175]? = some (.cells #[.int .i64 t173, .int .i64 t174] 26 (0, 0))) ∧ Aside0 (Kd.C k46 wc A176_1 ((rd_T41 t170 a1).f1).length ((rd_T41 t170 a1).f1)) ∧ Aside0 (Kd.C k41 wc A176_3 ((rd_T41 t170 a1).f3).length ((rd_T41 t170 a1).f3)) ∧ Aside0 (Below w.heap.size w wc))
        case first =>
         have H := HC22.out
         clear HC22
         by_cases c24 : ((rd_T41 t170 a1).f4) < 0
         ·
          rw [if_pos c24] at H
          have c24b0 := decide_eq_true c24
          clear c24
          (first | rw [c24b0] | (simp only [i64_w, i32_w]; rw [c24b0]) | skip)
          have H' := Aside0.mk H
          clear H
          go_wp2
          go_meet
          case rel => exact ⟨_, (true), sr_, H', ⟨by have := HJ7.out; first | omega | exact Nat.le_refl _⟩, ⟨by (with_reducible repeat (first | apply Kd.R_alloc | apply Kd.R_drewN | apply Kd.R_drew)); exact HO_5.out⟩, ⟨by exact bk_ BK175.out⟩, ⟨by repeat (first | (with_reducible exact HR176_1.out) | (with_reducible refine Kd.C_alloc ?_ _) | (with_reducible refine Kd.C_drewN ?_ _) | (with_reducible refine Kd.C_drew ?_) | exact HR176_1.out)⟩, ⟨by repeat (first | (with_reducible exact HR176_3.out) | (with_reducible refine Kd.C_alloc ?_ _) | (with_reducible refine Kd.C_drewN ?_ _) | (with_reducible refine Kd.C_drew ?_) | exact HR176_3.out)⟩, ⟨bl1_ HB.out GE175.out⟩⟩
         ·
          rw [if_neg c24] at H
          have c24b0 := decide_eq_false c24
          clear c24
          (first | rw [c24b0] | (simp only [i64_w, i32_w]; rw [c24b0]) | skip)
          have H' := Aside0.mk H
          clear H
          go_wp2
          go_meet
          case rel => exact ⟨_, (decide (((rd_T41 t170 a1).f4) > (a0.size : Int))), sr_, H', ⟨by have := HJ7.out; first | omega | exact Nat.le_refl _⟩, ⟨by (with_reducible repeat (first | apply Kd.R_alloc | apply Kd.R_drewN | apply Kd.R_drew)); exact HO_5.out⟩, ⟨by exact bk_ BK175.out⟩, ⟨by repeat (first | (with_reducible exact HR176_1.out) | (with_reducible refine Kd.C_alloc ?_ _) | (with_reducible refine Kd.C_drewN ?_ _) | (with_reducible refine Kd.C_drew ?_) | exact HR176_1.out)⟩, ⟨by repeat (first | (with_reducible exact HR176_3.out) | (with_reducible refine Kd.C_alloc ?_ _) | (with_reducible refine Kd.C_drewN ?_ _) | (with_reducible refine Kd.C_drew ?_) | exact HR176_3.out)⟩, ⟨bl1_ HB.out GE175.out⟩⟩
        case rest =>
         clear HC22
         try clear c1
         try clear p1
         try clear q1
         try clear hx1
         try clear c2
         try clear p2
         try clear c4
         try clear c5
         try clear c5b0
         try clear c5b1
         try clear c6
         try clear c13
         try clear c13b0
         try clear c13b1
         try clear c14
         try clear c14b0
         try clear c17
         try clear p17
         try clear q17
         try clear hx17
         try clear c19
         try clear c20
         try clear c20b0
         try clear c21
         try clear c21b0
         try clear c22
         try clear c24
         try clear c24b0
         try clear hcz12_0
         try clear hcz12_1
         try clear hcz15_0
         try clear hcz15_1
         try clear hcz16_0
         try clear hcz16_1
         try clear hcz18_0
         try clear hcz18_1
         try clear hfz12_0
         try clear hfz12_1
         try clear hfz15_0
         try clear hfz15_1
         try clear hfz16_0
         try clear hfz16_1
         try clear hfz18_0
         try clear hfz18_1
         try clear hx176_0
         try clear hx176_1
         try clear hx176_2
         try clear hx176_3
         try clear hx176_4
         try clear p176
         try clear p2
         try clear q176
         obtain ⟨kq, x45_21, rfl, HA, HJ21, HO_5, BK175, HR176_1, HR176_3, HB⟩ := hcut
         cases kq with
         | zero => exact absurd HA.out (by simp [salchowlaw10_ParserBegins.j1])
         | succ kj21 =>
          have H := HA.out
          clear HA
          simp only [salchowlaw10_ParserBegins.j1] at H
          by_cases c25 : x45_21 = true
          ·
           subst c25
           have H1 : (some false) = some r := by rw [if_pos rfl] at H; exact H
           clear H
           have H := H1
           clear H1
           obtain rfl := Option.some.inj H
           go_wp2
           go_ret
           exact ⟨er_, bl1_ HB.out GE175.out⟩
          ·
           replace c25 := Bool.eq_false_iff.mpr c25
           subst c25
           have H1 : (if 0 ≤ ((rd_T41 t170 a1).f4) then (if ((rd_T41 t170 a1).f4) ≤ (a0.size : Int) then ((parser_Parse.f kj21 (a0.extract 0 (((rd_T41 t170 a1).f4) : Int).toNat)).bind fun bt177 => (if bt177.2.1 = 0 then (if 0 ≤ a1 then (if a1 ≤ (t170.length : Int) then ((ref10_Equal.f kj21 bt177.1 (t170.take (a1 : Int).toNat) true).bind fun t187 => (some t187)) else (none)) else (none)) else (some false))) else (none)) else (none)) = some r := by rw [if_neg (show ¬ (false = true) by decide)] at H; exact H
           clear H
           have H := H1
           clear H1
           by_cases c26 : 0 ≤ ((rd_T41 t170 a1).f4)
           ·
            rw [if_pos c26] at H
            have c26b0 := eq_true c26
            have c26b1 := decide_eq_true c26
            clear c26
            by_cases c27 : ((rd_T41 t170 a1).f4) ≤ (a0.size : Int)
            ·
             rw [if_pos c27] at H
             have c27b0 := eq_true c27
             have c27b1 := decide_eq_true c27
             clear c27
             replace H := Option.bind_eq_some_iff.mp H
             obtain ⟨⟨t177, t180, t181⟩, A280, H⟩ := H
             (try dsimp only at H)
             have A28 := Aside0.mk A280
             clear A280
             by_cases c29 : t180 = 0
             ·
              rw [if_pos c29] at H
              have c29b0 := beq_iff_eq.mpr c29
              have c29b1 := bne_eq_false_iff_eq.mpr c29
              clear c29
              by_cases c30 : 0 ≤ a1
              ·
               rw [if_pos c30] at H
               have c30b0 := eq_true c30
               have c30b1 := decide_eq_true c30
               clear c30
               by_cases c31 : a1 ≤ (t170.length : Int)
               ·
                rw [if_pos c31] at H
                have c31b0 := eq_true c31
                have c31b1 := decide_eq_true c31
                clear c31
                obtain ⟨y183, hy183⟩ : ∃ y_ : List (S41), y_ = (t170.take (a1 : Int).toNat) := ⟨_, rfl⟩
                replace H : ((ref10_Equal.f kj21 t177 y183 true).bind fun t187 => (some t187)) = some r := by first | (rw [hy183]; with_reducible exact H) | (have H2_ := (Option.bind_some _ _).symm.trans H; rw [hy183]; with_reducible exact H2_) | (have H2_ := (Option.bind_some _ _).symm.trans H; with_reducible exact H2_) | with_reducible exact H | (rw [hy183]; exact H) | exact H
                have Ny183 := Aside0.mk hy183
                clear hy183
                replace H := Option.bind_eq_some_iff.mp H
                obtain ⟨t187, A320, H⟩ := H
                (try dsimp only at H)
                have A32 := Aside0.mk A320
                clear A320
                obtain rfl := Option.some.inj H
                go_wp2_with (first | ((with_reducible refine gate_callee (f := 22) rfl ?_); refine goesL_ (some 50) rfl rfl Tryd.func22 (by kernel_rfl) rfl #[.string (a0.extract 0 (((rd_T41 t170 a1).f4) : Int).toNat)] rfl ga_ ?_; (with_reducible refine (parser_Parse.calls kj21 (a0.extract 0 (((rd_T41 t170 a1).f4) : Int).toNat) t177 t180 t181 _ A28.out).mono ?_); rintro e w33 ⟨v178, rfl, ho0, hb⟩; refine ⟨_, rfl, ?_⟩; refine cut6_ (Kd.R_elder' (rR_ HO_5.out) (Kd.R_base ho0) hb) (Kd.R_lower (Kd.R_new' ho0 (Kd.R_lt (rR_ HO_5.out))) (below_size (bl1_ HB.out GE175.out))) (bb_ BK175.out hb) (Kd.C_below (cb_ HR176_1.out) hb) (Kd.C_below (cb_ HR176_3.out) hb) (below_step (bl1_ HB.out GE175.out) hb) ?_; clear HO_5 BK175 HR176_1 HR176_3 HB; intro HO_5 HO179 BK175 HR176_1 HR176_3 HB; (try clear hb); (try clear hb2); (try clear hk); (try clear hi); (try clear ho0)) | ((with_reducible refine gate_dst (N := 9) rfl ?_); (try (refine gate_guard (by rfl) ?_; dsimp only)); refine bx_ (N := 9) (cs := #[.int .i64 0, .int .i64 0]) (t := 26) ?_; intro gb182 hg w34 hbox hb; refine cut11_ (Kd.R_below (rR_ HO_5.out) hb) (Kd.R_below (rR_ HO179.out) hb) (bb_ BK175.out hb) (Kd.C_below (cb_ HR176_1.out) hb) (Kd.C_below (cb_ HR176_3.out) hb) (below_step (bl1_ HB.out GE175.out) hb) (hbox) (bz_ (w := w) hg (bl1_ HB.out GE175.out)) (bz_ (w := w) hg (bl1_ HB.out GE175.out)) (nl_ hg BK175.out) (ng_ hg BK175.out) ?_; clear HO_5 HO179 BK175 HR176_1 HR176_3 HB; intro HO_5 HO179 BK175 HR176_1 HR176_3 HB BK182 GW182 GE182 NB175_182 NB182_175; clear hb hbox hg; have hnb35 := NB182_175.out; have hnc35 := NB175_182.out; obtain ⟨hcz36_0, hcz36_1, hfz36_0, hfz36_1⟩ := cq2_ BK182.out) | ((with_reducible refine gate_store (t := 26) (p := 9) rfl ?_); refine store_event (t := 26) (p := 9) (v := ?vo_w37) (w1 := ((w34.setCell ⟨gb182, 0, none⟩ (.int .i64 t180)).setCell ⟨gb182, 1, none⟩ (.int .i64 t181))) ?hg ?ho ?hn ?hr ?_; (case ho => rfl); (case hg => rfl); (case hn => rfl); (case hr => first | (go_simp; done) | (go_simp; rfl)); intro w37 hw; have n0_ : Aside0 (Kd.R k41 41 w37 w.heap.size (fun k_ => some k_ ≠ (v178 : Value).ownBlock) (.slice (some ad176) t170.length co23) t170) := ⟨(by rw [hw]; exact (by (with_reducible repeat (first | apply Kd.R_alloc | apply Kd.R_drewN | apply Kd.R_drew)); exact Kd.R_mono (Kd.R_far (p := ⟨gb182, 1, none⟩) (Kd.R_far (p := ⟨gb182, 0, none⟩) (Kd.R_types HO_5.out BK182.out (by decide)) (fun _ hk => hk.2) (.int .i64 t180)) (fun _ hk => hk.2) (.int .i64 t181)) (fun _ hk => hk.1.2)))⟩; have n1_ : Aside0 (Kd.R k41 41 w37 w.heap.size (fun k_ => some k_ ≠ (.slice (some ad176) t170.length co23 : Value).ownBlock) v178 t177) := ⟨(by rw [hw]; exact (by (with_reducible repeat (first | apply Kd.R_alloc | apply Kd.R_drewN | apply Kd.R_drew)); exact Kd.R_mono (Kd.R_far (p := ⟨gb182, 1, none⟩) (Kd.R_far (p := ⟨gb182, 0, none⟩) (Kd.R_types HO179.out BK182.out (by decide)) (fun _ hk => hk.2) (.int .i64 t180)) (fun _ hk => hk.2) (.int .i64 t181)) (fun _ hk => hk.1.2)))⟩; have n2_ : Aside0 (w37.heap[gb175]? = some (.cells #[.int .i64 t173, .int .i64 t174] 26 (0, 0))) := ⟨(by rw [hw]; exact (by exact far2_ (bk_ BK175.out) NB175_182.out))⟩; have n3_ : Aside0 (w37.heap[gb182]? = some (.cells #[.int .i64 t180, .int .i64 t181] 26 (0, 0))) := ⟨(by rw [hw]; exact (by exact put2_ (bk_ BK182.out)))⟩; have n4_ : Aside0 (Below w.heap.size w w37) := ⟨(by rw [hw]; exact (bl2_ HB.out GE175.out GE182.out))⟩; clear hw; clear HO_5; clear HO179; clear BK175; clear BK182; clear HB; have HO_5 := n0_; have HO179 := n1_; have BK175 := n2_; have BK182 := n3_; have HB := n4_; clear n0_ n1_ n2_ n3_ n4_; obtain ⟨hcz38_0, hcz38_1, hfz38_0, hfz38_1⟩ := cq2_ BK182.out; have q39 : (a1 : Int) ≤ ((t170.length : Int) : Int) := dt_; obtain ⟨i039, hi039, _, hsz39, _⟩ := info_parts info41; have hroom39 : t170.length ≤ co23 := (Kd.R_reads' HO_5.out).2.1; have hC39 : Kd.C k41 _ (some ad176) t170.length t170 := (Kd.R_reads' HO_5.out).2.2; have hcut39 := cut_to (P := Tryd.prog) 23 41 .i64 Tryd.underlying23 hi039 (some ad176) t170.length co23 a1 (dt_) q39 hroom39; have hr39 := Kd.C_take (m := (a1 : Int).toNat) hC39 (by omega); have hy39 : y183.length = (a1 : Int).toNat := (by rw [Ny183.out, List.length_take]; omega); rw [← Ny183.out] at hr39; rw [← hy39] at hcut39; have HR186 := Aside0.mk hr39; have HC186 := Aside0.mk (show y183.length ≤ co23 from by omega); clear hr39 hC39 hroom39 hi039 hsz39; have KY39 := Aside0.mk hy39; clear hy39; have KL39 := Aside0.mk (show (a1 : Int).toNat ≤ t170.length from by omega); replace q39 := eq_true q39; obtain ⟨Ao40, co40, eo40⟩ := Kd.R_slice HO179.out; subst eo40) | (go_at_call 24; (with_reducible refine (ref10_Equal.calls kj21 _ _ t177 _ _ y183 true t187 _ ?side1 ?side2 ?side3 ?side4 A32.out).mono ?_); (case side1 => repeat (first | exact (Kd.R_reads' HO179.out).2.2 | (with_reducible refine Kd.C_alloc ?_ _) | (with_reducible refine Kd.C_drewN ?_ _) | (with_reducible refine Kd.C_drew ?_))); (case side2 => exact (Kd.R_reads' HO179.out).2.1); (case side3 => repeat (first | exact (cb_ HR186.out) | (with_reducible refine Kd.C_alloc ?_ _) | (with_reducible refine Kd.C_drewN ?_ _) | (with_reducible refine Kd.C_drew ?_))); (case side4 => exact HC186.out); rintro e w41 ⟨rfl, hb⟩; refine cut6_ (Kd.R_below (rR_ HO_5.out) hb) (Kd.R_below (rR_ HO179.out) hb) (bb_ BK175.out hb) (bb_ BK182.out hb) (Kd.C_below (cb_ HR186.out) hb) (below_step (bl2_ HB.out GE175.out GE182.out) hb) ?_; clear HO_5 HO179 BK175 BK182 HR186 HB; intro HO_5 HO179 BK175 BK182 HR186 HB; (try clear hb); (try clear hb2); (try clear hk); (try clear hi)))
                go_ret
                exact ⟨er_, bl2_ HB.out GE175.out GE182.out⟩
               ·
                rw [if_neg c31] at H
                exact absurd H (by simp)
              ·
               rw [if_neg c30] at H
               exact absurd H (by simp)
             ·
              rw [if_neg c29] at H
              have c29b0 := beq_eq_false_iff_ne.mpr c29
              have c29b1 := bne_iff_ne.mpr c29
              obtain rfl := Option.some.inj H
              go_wp2_with (first | ((with_reducible refine gate_callee (f := 22) rfl ?_); refine goesL_ (some 50) rfl rfl Tryd.func22 (by kernel_rfl) rfl #[.string (a0.extract 0 (((rd_T41 t170 a1).f4) : Int).toNat)] rfl ga_ ?_; (with_reducible refine (parser_Parse.calls kj21 (a0.extract 0 (((rd_T41 t170 a1).f4) : Int).toNat) t177 t180 t181 _ A28.out).mono ?_); rintro e w42 ⟨v178, rfl, ho0, hb⟩; refine ⟨_, rfl, ?_⟩; refine cut6_ (Kd.R_elder' (rR_ HO_5.out) (Kd.R_base ho0) hb) (Kd.R_lower (Kd.R_new' ho0 (Kd.R_lt (rR_ HO_5.out))) (below_size (bl1_ HB.out GE175.out))) (bb_ BK175.out hb) (Kd.C_below (cb_ HR176_1.out) hb) (Kd.C_below (cb_ HR176_3.out) hb) (below_step (bl1_ HB.out GE175.out) hb) ?_; clear HO_5 BK175 HR176_1 HR176_3 HB; intro HO_5 HO179 BK175 HR176_1 HR176_3 HB; (try clear hb); (try clear hb2); (try clear hk); (try clear hi); (try clear ho0)) | ((with_reducible refine gate_dst (N := 9) rfl ?_); (try (refine gate_guard (by rfl) ?_; dsimp only)); refine bx_ (N := 9) (cs := #[.int .i64 0, .int .i64 0]) (t := 26) ?_; intro gb182 hg w43 hbox hb; refine cut11_ (Kd.R_below (rR_ HO_5.out) hb) (Kd.R_below (rR_ HO179.out) hb) (bb_ BK175.out hb) (Kd.C_below (cb_ HR176_1.out) hb) (Kd.C_below (cb_ HR176_3.out) hb) (below_step (bl1_ HB.out GE175.out) hb) (hbox) (bz_ (w := w) hg (bl1_ HB.out GE175.out)) (bz_ (w := w) hg (bl1_ HB.out GE175.out)) (nl_ hg BK175.out) (ng_ hg BK175.out) ?_; clear HO_5 HO179 BK175 HR176_1 HR176_3 HB; intro HO_5 HO179 BK175 HR176_1 HR176_3 HB BK182 GW182 GE182 NB175_182 NB182_175; clear hb hbox hg; have hnb44 := NB182_175.out; have hnc44 := NB175_182.out; obtain ⟨hcz45_0, hcz45_1, hfz45_0, hfz45_1⟩ := cq2_ BK182.out))
              go_ret
              exact ⟨er_, bl2_ HB.out GE175.out GE182.out⟩
            ·
             rw [if_neg c27] at H
             exact absurd H (by simp)
           ·
            rw [if_neg c26] at H
            exact absurd H (by simp)
       ·
        rw [if_neg c21] at H
        exact absurd H (by simp)
      ·
       rw [if_neg c20] at H
       exact absurd H (by simp)
 ·
  replace c4 := Bool.eq_false_iff.mpr c4
  subst c4
  have H1 : (some false) = some r := by rw [if_neg (show ¬ (false = true) by decide)] at H; exact H
  clear H
  have H := H1
  clear H1
  obtain rfl := Option.some.inj H
  go_enter Tryd.func6, Tryd.ntmps6
  go_wp2_with (first | ((with_reducible refine gate_callee (f := 21) rfl ?_); refine goesL_ (some 10) rfl rfl Tryd.func21 (by kernel_rfl) rfl #[] rfl ga_ ?_; (with_reducible refine (salchowlaw10_awake.calls k  false _ A3.out).mono ?_); rintro e w46 ⟨rfl, hb⟩; refine ⟨_, rfl, ?_⟩; refine cut1_ (below_step (bl_ HB.out) hb) ?_; clear HB; intro HB; (try clear hb); (try clear hb2); (try clear hk); (try clear hi)))
  go_ret
  exact ⟨er_, bl_ HB.out⟩
/-- THE ONE PURE STATEMENT of salchowlaw10_ParserBegins: yours. -/
def salchowlaw10_ParserBegins.Pure : Prop := ∀ (a0 : ByteArray) (a1 : Int), a0.size ≤ 140737488351232 → (Lit.int .i64 a1).wf = true → ∃ k, salchowlaw10_ParserBegins.f k a0 a1 = some true
theorem salchowlaw10_ParserBegins.walk (P : salchowlaw10_ParserBegins.Pure) (a0 : ByteArray) (a1 : Int) (w : World) (w0 : a0.size ≤ 140737488351232) (w1 : (Lit.int .i64 a1).wf = true) :
  Calls Tryd.prog 6 #[.string a0, .int .i64 a1] w fun e w' => e = .returned (.bool true) ∧ Below w.heap.size w w' := by
 obtain ⟨k, h⟩ := P a0 a1 w0 w1
 refine (salchowlaw10_ParserBegins.calls k a0 a1 true w h).mono ?_
 rintro e w' ⟨rfl, hd⟩
 exact ⟨rfl, hd⟩
end Go.Proofs.YtkifdadhojbohaaDoor.Pr
namespace Go.Proofs.YtkifdadhojbohaaDoor.Pu
open Go.RowKit Go.Proofs.YtkifdadhojbohaaDoor Go.Proofs.YtkifdadhojbohaaDoor.Pr Go.Proofs.YtkifdadhojbohaaDoorW.PrintWords Go.Proofs.YtkifdadhojbohaaDoorW.PrintLast Go.Proofs.YtkifdadhojbohaaDoorW.PrintMore
theorem map_split {α β : Type} (f : α → β) : ∀ (l : List α) (a b : List β), l.map f = a ++ b → ∃ x y, l = x ++ y ∧ x.map f = a ∧ y.map f = b
  | l, [], b, h => ⟨[], l, rfl, rfl, h⟩
  | [], c :: a, b, h => by cases h
  | z :: l, c :: a, b, h => by
    rw [List.map_cons, List.cons_append] at h
    injection h with h1 h2
    obtain ⟨x, y, rfl, h3, h4⟩ := map_split f l a b h2
    exact ⟨z :: x, y, rfl, by rw [List.map_cons, h1, h3], h4⟩
/-- What stands in front of an entry is accepted with the entries before it. -/
theorem PA.before {s : ByteArray} (hs : s.size ≤ 1500) {cs : List S41} (h : PA s (cs, 0, 0)) (w : Nat) (c : S41) (hw : cs[w]? = some c) :
    0 ≤ c.f4 ∧ c.f4 ≤ (s.size : Int) ∧ PA (s.extract 0 c.f4.toNat) (cs.take w, 0, 0) := by
  obtain ⟨us, h1, h2, h3, h4, h5, h6, h7, h8, h9, _⟩ := h.facts (by omega)
  obtain ⟨p, t, q, e, g1, g2, g3⟩ := h2.before _ _ rfl w c hw
  obtain ⟨k1, k2, k3_⟩ := toks_good s h1
  have hz : us.map (Tok.at_ s.size) ++ [endS s.size] = (us ++ [endT]).map (Tok.at_ s.size) := by simp
  rw [hz] at e
  obtain ⟨xs, ys, e1, e2, e3⟩ := map_split _ _ _ _ e
  cases ys with
  | nil => cases e3
  | cons v ys =>
    rw [List.map_cons] at e3
    injection e3 with e4 e5
    have hv5 : v.kind ≠ 5 := by
      have : (Tok.at_ s.size v).f0 = 1 := by rw [e4]; exact g1
      show v.kind ≠ 5
      intro h
      have h' : (Tok.at_ s.size v).f0 = v.kind := rfl
      omega
    -- v is one of the tokens, and those of xs stand ahead of it
    have hmem : ∃ zs, us = xs ++ v :: zs := by
      cases hy : ys.reverse with
      | nil =>
        have : ys = [] := by simpa using hy
        subst this
        have := List.append_inj_right' e1 rfl
        injection this with h _
        exact absurd (by rw [← h]) hv5
      | cons a zs =>
        have hys : ys = zs.reverse ++ [a] := by
          have := congrArg List.reverse hy
          simpa using this
        rw [hys] at e1
        have e6 : us ++ [endT] = (xs ++ v :: zs.reverse) ++ [a] := by rw [e1]; simp
        exact ⟨zs.reverse, List.append_inj_left' e6 rfl⟩
    obtain ⟨zs, hus⟩ := hmem
    obtain ⟨_, _, r1, r2, _⟩ := k1 v (by rw [hus]; simp)
    have hat : c.f4 = (s.size : Int) - v.rem := by rw [← g2, ← e4]; rfl
    have hn : c.f4.toNat = s.size - v.rem := by omega
    refine ⟨by omega, by omega, ?_⟩
    rw [hn]
    have hl : lst (s.extract 0 (s.size - v.rem)) = (lst s).take (s.size - v.rem) := by
      rw [lst_extract]; simp
    have hsz : (s.extract 0 (s.size - v.rem)).size = s.size - v.rem := by
      rw [← lst_length, hl, List.length_take, lst_length]; omega
    have hcat : (lst s).take (s.size - v.rem) ++ (lst s).drop (s.size - v.rem) = lst s := List.take_append_drop _ _
    have hdl : ((lst s).drop (s.size - v.rem)).length = v.rem := by rw [List.length_drop, lst_length]; omega
    have hpw : ∀ u ∈ xs, v.rem < u.rem := by
      intro u hu
      rw [hus] at k2
      exact (List.pairwise_append.1 k2).2.2 u hu v (by simp)
    have hlex := lex_cut ((lst s).drop (s.size - v.rem)) v hdl.symm hv5 (s.size + 1) ((lst s).take (s.size - v.rem)) xs (zs ++ [endT]) (by rw [hcat, lst_length]; omega) (by rw [hcat, h1, hus]; simp) (by rw [hdl]; exact hpw) (s.size - v.rem + 1) (by rw [List.length_take, lst_length]; omega)
    rw [hdl] at hlex
    have hmap : (xs.map (Tok.down v.rem)).map (Tok.at_ (s.size - v.rem)) = p := by
      rw [← e2, List.map_map]
      apply List.map_congr_left
      intro u hu
      have := hpw u hu
      obtain ⟨_, _, _, r4, _⟩ := k1 u (by rw [hus]; simp [hu])
      show (⟨u.kind, str u.text, u.n, ((s.size - v.rem : Nat) : Int) - ((u.rem - v.rem : Nat) : Int)⟩ : S46) = ⟨u.kind, str u.text, u.n, (s.size : Int) - u.rem⟩
      have : ((s.size - v.rem : Nat) : Int) - ((u.rem - v.rem : Nat) : Int) = (s.size : Int) - u.rem := by omega
      rw [this]
    have hrl := g3 [endS (s.size - v.rem)] _ (RL.stop 0 (endS (s.size - v.rem)) [] (show (5 : Int) ≠ 1 by decide) rfl)
    rw [← hmap] at hrl
    refine PA.good (s := s.extract 0 (s.size - v.rem)) (xs.map (Tok.down v.rem)) (cs.take w) ?_ ?_
    · rw [hsz, hl]; exact hlex
    · rw [hsz]
      simpa [pre] using hrl
theorem parserBegins : salchowlaw10_ParserBegins.Pure := by
  intro s i hi _
  apply Ev.rounds
  have skip : ∀ cs, Ev (fun k => salchowlaw10_ParserBegins.j0 k s i cs true) true := by
    intro cs
    refine Ev.succ ?_
    simp only [salchowlaw10_ParserBegins.j0]
    exact Ev.ifp trivial (Ev.now _)
  unfold salchowlaw10_ParserBegins.f
  refine Ev.bind awake10_f (Ev.ifp rfl ?_)
  by_cases hs : (s.size : Int) > 1500
  · exact Ev.ifp hs (Ev.now _)
  · obtain ⟨y, hy⟩ := PA.ex s
    refine Ev.ifn hs (Ev.bind (Parse_f s (by omega) hy) ?_)
    by_cases hc : y.2.1 = 0
    · refine Ev.ifp hc ?_
      by_cases h0 : i < 0
      · exact Ev.ifp h0 (skip _)
      · refine Ev.ifn h0 ?_
        by_cases h1 : i ≥ (y.1.length : Int)
        · rw [decide_eq_true h1]; exact skip _
        · rw [decide_eq_false h1]
          obtain ⟨cs, c, a⟩ := y
          obtain rfl : c = 0 := hc
          obtain ⟨us, k1, k2, k3_, k4, k5, k6, k7, k8, k9, rfl⟩ := hy.facts (by omega)
          obtain ⟨w, rfl⟩ : ∃ w : Nat, i = (w : Int) := ⟨i.toNat, by omega⟩
          have hw : w < cs.length := by dsimp only at h1; omega
          obtain ⟨g1, g2, g3⟩ := hy.before (by omega) w cs[w] (List.getElem?_eq_getElem hw)
          have hrd : rd_T41 cs (w : Int) = cs[w] := by
            unfold rd_T41
            rw [Int.toNat_natCast, List.getD_eq_getElem?_getD, List.getElem?_eq_getElem hw]; rfl
          refine Ev.succ ?_
          simp only [salchowlaw10_ParserBegins.j0, hrd]
          refine Ev.ifn (by simp) (Ev.ifp natO (Ev.ifp (by omega) (Ev.ifn (by omega) ?_)))
          rw [decide_eq_false (by omega)]
          refine Ev.succ ?_
          simp only [salchowlaw10_ParserBegins.j1]
          have hsz : (s.extract 0 (cs[w].f4).toNat).size ≤ 65536 := by
            rw [← lst_length, lst_extract, List.length_drop, List.length_take, lst_length]; omega
          refine Ev.ifn (by simp) (Ev.ifp g1 (Ev.ifp g2 (Ev.bind (Parse_f _ hsz g3) (Ev.ifp rfl (Ev.ifp natO (Ev.ifp (by omega) (Ev.bind (Equal_f ?_) (Ev.now _))))))))
          rw [Int.toNat_natCast]
          exact g3.self (by omega) true
    · exact Ev.ifn hc (skip _)
end Go.Proofs.YtkifdadhojbohaaDoor.Pu
namespace Go.Proofs.YtkifdadhojbohaaDoor.parserBegins
open Go.ChangeShapes Go.WideShapes Go.ChangeAt Go.RowKit Rk
open Go.ChangeMaps (open_string shut_string)
theorem c09 : (Rows.parserBeginsRow.inPlace == Tryd.prog.inPlace 6) = true := by kernel_rfl
theorem c10 : (Rows.parserBeginsRow.unfollowed == Tryd.prog.unfollowed 6) = true := by kernel_rfl
theorem c11 : (Rows.parserBeginsRow.recurses == Tryd.prog.recurses 6) = true := by kernel_rfl
theorem c12 : (Rows.parserBeginsRow.named == Tryd.prog.varsNamed 6) = true := by kernel_rfl
theorem facts : joinedFacts Tryd.prog 6 Tryd.f6 Rows.parserBeginsSpec Rows.parserBeginsRow = true :=
  facts_of _ _ _ _ _ (by kernel_rfl) out_ rowed_ (by kernel_rfl) (by kernel_rfl) rfl (by kernel_rfl) rfl (by kernel_rfl) c09 c10 c11 c12 (by kernel_rfl) (by kernel_rfl) (by kernel_rfl) (by kernel_rfl) (by kernel_rfl)
    (by kernel_rfl) (by kernel_rfl) (by kernel_rfl) (by kernel_rfl) (by kernel_rfl) (by kernel_rfl) heard_ enter_ (by kernel_rfl) (by kernel_rfl) (by kernel_rfl) (by kernel_rfl) (by kernel_rfl) (by kernel_rfl)
theorem goes : false = Rows.parserBeginsRow.goesBy Tryd.prog := by kernel_rfl
set_option maxRecDepth 100000 in
theorem lifted (os : Os) (started : os.Started) (H : Type) (enc : TypeId × Value → H) :
    ReturnsInHanded {} Tryd.checked os 6 .any (fun w args => (Rows.parserBeginsSpec.pre enc Tryd.prog Tryd.f6 [] false w args ∧ laidMetH Tryd.prog laidA w) ∧ sizedMet enc Tryd.prog Tryd.f6 (OpenSpec.ofChange Rows.parserBeginsSpec) false w args)
      (Rows.parserBeginsSpec.post enc Tryd.prog Tryd.f6 false true false false) := by
  refine returnsInHanded_of_change_and (C := Tryd.checked) (X := fun w _ => laidMetH Tryd.prog laidA w) (fun _ _ _ hh h => h.of_heap hh) own started (by kernel_rfl) Tryd.func6
    (ChangeSpec.witness_shaped (enc := enc) (C := Tryd.checked) (os := os) (X := fun w _ => laidMetH Tryd.prog laidA w) false (wA os) #[.string ByteArray.empty, .int .i64 0] 8 (World.laidAll_os _ _ _)
      (World.shaped_of_ZipB (by kernel_rfl) (by kernel_rfl)) (by kernel_rfl) (by kernel_rfl) (by kernel_rfl) (met_A os _)) ?_
  intro W base args ds gs before hval0 hW _ hsz0 hL _
  have hsz : (DataW.weightsEach Tryd.prog (Tryd.f6.params.toList ++ Rows.parserBeginsSpec.plain.varTypes Tryd.prog) (ds ++ gs)).all (· ≤ reachBytes) = true := hsz0
  have hval : ∀ (j : Nat) t v, Tryd.f6.params[j]? = some t → args[j]? = some v → Value.okWide Tryd.prog W .any base t v := hval0
  have hW' := hW
  obtain ⟨p, q, hA0, hV, rfl, _, _⟩ := hW
  have hA : DataW.TrodAll enc Tryd.prog W 0 (fun _ => true) true Tryd.f6.params.toList args.toList ds p := hA0
  rw [Tryd.params6] at hA hval hsz
  obtain ⟨v0, vs0, d0, ds0, p0, q0, hargs, rfl, rfl, h0, r0⟩ := trodAll_cons hA
  obtain ⟨v1, vs1, d1, ds1, p1, q1, rfl, rfl, rfl, h1, r1⟩ := trodAll_cons r0
  obtain ⟨rfl, rfl, rfl⟩ := trodAll_nil r1
  obtain rfl : args = #[v0, v1] := by cases args; simp_all
  obtain ⟨rfl, rfl⟩ := trodVars_none hV
  obtain ⟨a0, rfl, rfl, rfl, y0⟩ := open_string Tryd.underlying9 (hval 0 9 v0 rfl rfl) h0
  have w0 : a0.size ≤ 140737488351232 := by
    have z := sized_string hsz (j := 0) (t := 9) rfl rfl
    rw [Array.length_toList] at z
    exact z
  obtain ⟨a1, rfl, rfl, rfl, w1⟩ := open_int Tryd.underlying3 (hval 1 3 v1 rfl rfl) h1
  clear hA0 hval0 hsz0 hsz
  refine (Pr.salchowlaw10_ParserBegins.walk Pu.parserBegins a0 a1 W  w0 w1).mono fun e W' ⟨he, bel⟩ => ?_
  subst he
  exact ⟨_, rfl, _, _, _, [], _, [], hW', trodAll_mk1 (shut_bool Tryd.underlying4 _), (trodAll_cons_mk (shut_string Tryd.underlying9 y0) (trodAll_cons_mk (shut_int Tryd.underlying3 w1) trodAll_mk0)), rfl, bel.frame _, fun h => by cases h⟩
theorem over : Rows.parserBeginsRow.holds Tryd.pinned (OpenSpec.ofChange Rows.parserBeginsSpec) :=
  OpenClaim.holds_of_wide 6 Tryd.f6 rfl rfl rfl rfl rfl rfl rfl ⟨rfl, rfl, rfl, rfl, rfl⟩ rfl rfl rfl rfl rfl (by kernel_rfl) Tryd.func6 facts
    (of_decide_eq_true (by kernel_rfl)) (by unfold Func.isWrapper; first | (rw [if_pos (by decide +kernel)]; kernel_rfl) | (rw [if_neg (by decide +kernel)]; exact ⟨rfl, rfl⟩))
    (fun os started H enc _ => lifted os started H enc)
theorem card : Rows.ParserBeginsCardSaid :=
  Claim7.holds_tied_plain_at .later [] [.data, .data, .data, .sentinel, .sentinel] true (true, "74d2011260c70b611c86c4d3b7f5d11cc5fefff18c715f175ff3522b41f9dd0c") true
    over (fun _ h => by cases h) (by kernel_rfl) (fun _ h => by cases h) parserBegins_row_tie rfl ⟨rfl, rfl⟩ mainIs_ rfl
    (fun f fn hf hfn => by
      obtain rfl : f = 6 := Option.some.inj ((show Tryd.prog.funcNamed "salchow/salchowlaw10.ParserBegins" = some 6 by kernel_rfl).symm.trans hf) |>.symm
      obtain rfl : fn = Tryd.f6 := (Option.some.inj (Tryd.func6.symm.trans hfn)).symm
      exact ⟨looks_, fun j t ht => by
        rw [Tryd.params6] at ht
        have hm : t ∈ [9, 3] := by simpa using Array.mem_of_getElem? ht
        have hall : ([9, 3].all fun u => !Tryd.prog.wantsStandIn u) = true := by kernel_rfl
        exact (show Tryd.prog.wantsStandIn t = false by simpa using List.all_eq_true.1 hall t hm)⟩)
    goes
#print axioms card
end Go.Proofs.YtkifdadhojbohaaDoor.parserBegins
