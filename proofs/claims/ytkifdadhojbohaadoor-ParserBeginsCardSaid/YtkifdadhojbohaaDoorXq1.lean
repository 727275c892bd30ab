/- Joined out of the texts of this proof that bear the names PrF54 PrF24 PrG24 PwDr: what each shows stands over it there. -/
import Derived.Test.YtkifdadhojbohaaDoorXk1
import Derived.Test.YtkifdadhojbohaaDoorXb1
import Derived.Test.YtkifdadhojbohaaDoorXs1
set_option linter.unusedVariables false
set_option linter.unusedSimpArgs false
namespace Go.Proofs.YtkifdadhojbohaaDoor.Pr
open Go.Proofs.YtkifdadhojbohaaDoor
open Go.RowKit Go.Proofs.YtkifdadhojbohaaDoorW.PrintWords Go.Proofs.YtkifdadhojbohaaDoorW.PrintLast Go.Proofs.YtkifdadhojbohaaDoorW.PrintMore
attribute [local go_sem] max2_int min2_int max_two min_two max_three min_three max_four min_four   -- for this text's walks alone
set_option linter.unusedVariables false
set_option linter.unusedSimpArgs false
/-! ### salchowref10_same: function 54 -/
mutual
def salchowref10_same.j0 (QF : Nat → List S41 → List S41 → Bool → Option Bool) : Nat → Bool → Bool → ByteArray → List (S46) → Bool → List (S41) → Int → ByteArray → List (S46) → Bool → List (S41) → Int → Option (Bool)
 | 0, _, _, _, _, _, _, _, _, _, _, _, _ => none
 | k + 1, x2, x40, x102000, x102001, x102002, x102003, x102004, x103000, x103001, x103002, x103003, x103004 => if x40 = true then (none) else (salchowref10_same.l0 QF k x2 0 x102000 x102001 x102002 x102003 x102004 x103000 x103001 x103002 x103003 x103004)
def salchowref10_same.l0 (QF : Nat → List S41 → List S41 → Bool → Option Bool) : Nat → Bool → Int → ByteArray → List (S46) → Bool → List (S41) → Int → ByteArray → List (S46) → Bool → List (S41) → Int → Option (Bool)
 | 0, _, _, _, _, _, _, _, _, _, _, _, _ => none
 | k + 1, x2, x7, x102000, x102001, x102002, x102003, x102004, x103000, x103001, x103002, x103003, x103004 => if x7 < (x102001.length : Int) then (if 0 ≤ x7 then (if x7 < (x103001.length : Int) then (if ((rd_T46 x102001 x7).f0) = ((rd_T46 x103001 x7).f0) then (if ((rd_T46 x102001 x7).f1).toList = ((rd_T46 x103001 x7).f1).toList then (if ((rd_T46 x102001 x7).f2) = ((rd_T46 x103001 x7).f2) then (if x2 = true then (if ((rd_T46 x102001 x7).f3) = ((rd_T46 x103001 x7).f3) then (salchowref10_same.l0 QF k x2 (wrap64 (x7 + 1)) x102000 x102001 x102002 x102003 x102004 x103000 x103001 x103002 x103003 x103004) else (none)) else (salchowref10_same.l0 QF k x2 (wrap64 (x7 + 1)) x102000 x102001 x102002 x102003 x102004 x103000 x103001 x103002 x103003 x103004)) else (none)) else (none)) else (none)) else (none)) else (none)) else ((QF k x102003 x103003 x2).bind fun t107 => (some t107))
end
def salchowref10_same.f (QF : Nat → List S41 → List S41 → Bool → Option Bool) (k : Nat) (a0_0 : ByteArray) (l0_1 : List (S46)) (a0_2 : Bool) (l0_3 : List (S41)) (a0_4 : Int) (a1_0 : ByteArray) (l1_1 : List (S46)) (a1_2 : Bool) (l1_3 : List (S41)) (a1_4 : Int) (a2 : Bool) : Option (Bool) := if a0_0.toList = a1_0.toList then (if (a0_2 != a1_2) = true then (salchowref10_same.j0 QF k a2 true a0_0 l0_1 a0_2 l0_3 a0_4 a1_0 l1_1 a1_2 l1_3 a1_4) else (if (l0_1.length : Int) = (l1_1.length : Int) then (if a2 = true then (salchowref10_same.j0 QF k a2 (a0_4 != a1_4) a0_0 l0_1 a0_2 l0_3 a0_4 a1_0 l1_1 a1_2 l1_3 a1_4) else (salchowref10_same.j0 QF k a2 false a0_0 l0_1 a0_2 l0_3 a0_4 a1_0 l1_1 a1_2 l1_3 a1_4)) else (salchowref10_same.j0 QF k a2 true a0_0 l0_1 a0_2 l0_3 a0_4 a1_0 l1_1 a1_2 l1_3 a1_4))) else (salchowref10_same.j0 QF k a2 true a0_0 l0_1 a0_2 l0_3 a0_4 a1_0 l1_1 a1_2 l1_3 a1_4)
theorem salchowref10_same.mono_l (QF : Nat → List S41 → List S41 → Bool → Option Bool) (mQF : ∀ x0 x1 x2 k, LeO (QF k x0 x1 x2) (QF (k + 1) x0 x1 x2)) : ∀ k, (∀ y0 y1 y2 y3 y4 y5 y6 y7 y8 y9 y10 y11, LeO (salchowref10_same.j0 QF k y0 y1 y2 y3 y4 y5 y6 y7 y8 y9 y10 y11) (salchowref10_same.j0 QF (k + 1) y0 y1 y2 y3 y4 y5 y6 y7 y8 y9 y10 y11)) ∧ (∀ y0 y1 y2 y3 y4 y5 y6 y7 y8 y9 y10 y11, LeO (salchowref10_same.l0 QF k y0 y1 y2 y3 y4 y5 y6 y7 y8 y9 y10 y11) (salchowref10_same.l0 QF (k + 1) y0 y1 y2 y3 y4 y5 y6 y7 y8 y9 y10 y11))
 | 0 => ⟨fun _ _ _ _ _ _ _ _ _ _ _ _ r h => by simp [salchowref10_same.j0] at h, fun _ _ _ _ _ _ _ _ _ _ _ _ r h => by simp [salchowref10_same.l0] at h⟩
 | k + 1 => by
  obtain ⟨ih0, ih1⟩ := salchowref10_same.mono_l QF mQF k
  refine ⟨?_, ?_⟩
  ·
   intro y0 y1 y2 y3 y4 y5 y6 y7 y8 y9 y10 y11
   unfold salchowref10_same.j0
   repeat' first
   | (with_reducible exact LeO.refl _)
   | exact ih0 _ _ _ _ _ _ _ _ _ _ _ _
   | exact ih1 _ _ _ _ _ _ _ _ _ _ _ _
   | exact mQF _ _ _ _
   | exact LeO.none _
   | refine LeO.ite ?_ ?_
   | refine LeO.bind ?_ (fun _ => ?_)
  ·
   intro y0 y1 y2 y3 y4 y5 y6 y7 y8 y9 y10 y11
   unfold salchowref10_same.l0
   repeat' first
   | (with_reducible exact LeO.refl _)
   | exact ih0 _ _ _ _ _ _ _ _ _ _ _ _
   | exact ih1 _ _ _ _ _ _ _ _ _ _ _ _
   | exact mQF _ _ _ _
   | exact LeO.none _
   | refine LeO.ite ?_ ?_
   | refine LeO.bind ?_ (fun _ => ?_)
theorem salchowref10_same.mono (QF : Nat → List S41 → List S41 → Bool → Option Bool) (mQF : ∀ x0 x1 x2 k, LeO (QF k x0 x1 x2) (QF (k + 1) x0 x1 x2)) : ∀ a0 a1 a2 a3 a4 a5 a6 a7 a8 a9 a10 k, LeO (salchowref10_same.f QF k a0 a1 a2 a3 a4 a5 a6 a7 a8 a9 a10) (salchowref10_same.f QF (k + 1) a0 a1 a2 a3 a4 a5 a6 a7 a8 a9 a10) := by
 intro a0 a1 a2 a3 a4 a5 a6 a7 a8 a9 a10 k
 obtain ⟨ih0, ih1⟩ := salchowref10_same.mono_l QF mQF k
 unfold salchowref10_same.f
 repeat' first
   | (with_reducible exact LeO.refl _)
   | exact ih0 _ _ _ _ _ _ _ _ _ _ _ _
   | exact ih1 _ _ _ _ _ _ _ _ _ _ _ _
   | exact mQF _ _ _ _
   | exact LeO.none _
   | refine LeO.ite ?_ ?_
   | refine LeO.bind ?_ (fun _ => ?_)
def salchowref10_same.T6 : Bool × List (List Nat × List Nat) := (true, [([], []), ([0], [0]), ([], []), ([1, 2], [1, 2]), ([3], [3]), ([], []), ([5], [5]), ([], []), ([6, 7], [6, 7]), ([8], [8]), ([], []), ([], []), ([10, 4, 0, 1, 2, 3, 4, 10, 11], [4, 10]), ([11, 9, 12, 0, 1, 2, 3, 4, 5, 6, 7, 8, 9, 10, 11, 12], [9, 11])])
def salchowref10_same.B6 : List Nat := [0, 1, 0, 7, 15, 0, 32, 0, 224, 480, 0, 0, 3103, 8191]
theorem salchowref10_same.tab6 : rtab .any (opsOf Tryd.f54 6) = salchowref10_same.T6 := by kernel_rfl
theorem salchowref10_same.bits6 : waitsOk salchowref10_same.T6.2 salchowref10_same.B6 = true := by kernel_rfl
set_option maxHeartbeats 8000000 in
set_option maxRecDepth 100000 in
theorem salchowref10_same.calls (QF : Nat → List S41 → List S41 → Bool → Option Bool) (hQF : ∀ (k : Nat) (A0 : Option Addr) (c0 : Nat) (l0 : List (S41)) (A1 : Option Addr) (c1 : Nat) (l1 : List (S41)) (a2 : Bool) (r : Bool) (w : World) (hr0 : Kd.C k41 w A0 l0.length l0) (hc0 : l0.length ≤ c0) (hr1 : Kd.C k41 w A1 l1.length l1) (hc1 : l1.length ≤ c1) (h : QF k l0 l1 a2 = some r), Calls Tryd.prog 24 #[.slice A0 l0.length c0, .slice A1 l1.length c1, .bool a2] w fun e w' => e = .returned (.bool r) ∧ Below w.heap.size w w') (k : Nat) (a0_0 : ByteArray) (A0_1 : Option Addr) (c0_1 : Nat) (l0_1 : List (S46)) (a0_2 : Bool) (A0_3 : Option Addr) (c0_3 : Nat) (l0_3 : List (S41)) (a0_4 : Int) (a1_0 : ByteArray) (A1_1 : Option Addr) (c1_1 : Nat) (l1_1 : List (S46)) (a1_2 : Bool) (A1_3 : Option Addr) (c1_3 : Nat) (l1_3 : List (S41)) (a1_4 : Int) (a2 : Bool) (r : Bool) (w : World) (hr0_1 : Kd.C k46 w A0_1 l0_1.length l0_1) (hc0_1 : l0_1.length ≤ c0_1) (hr0_3 : Kd.C k41 w A0_3 l0_3.length l0_3) (hc0_3 : l0_3.length ≤ c0_3) (hr1_1 : Kd.C k46 w A1_1 l1_1.length l1_1) (hc1_1 : l1_1.length ≤ c1_1) (hr1_3 : Kd.C k41 w A1_3 l1_3.length l1_3) (hc1_3 : l1_3.length ≤ c1_3) (h : salchowref10_same.f QF k a0_0 l0_1 a0_2 l0_3 a0_4 a1_0 l1_1 a1_2 l1_3 a1_4 a2 = some r) :
  Calls Tryd.prog 54 #[.agg #[.string a0_0, .slice A0_1 l0_1.length c0_1, .bool a0_2, .slice A0_3 l0_3.length c0_3, .int .i64 a0_4], .agg #[.string a1_0, .slice A1_1 l1_1.length c1_1, .bool a1_2, .slice A1_3 l1_3.length c1_3, .int .i64 a1_4], .bool a2] w fun e w' => e = .returned (.bool r) ∧ Below w.heap.size w w' := by
 have hu41 := Tryd.underlying41
 have hu46 := Tryd.underlying46
 have HR0_1 := Aside0.mk hr0_1
 have HC0_1 := Aside0.mk hc0_1
 clear hr0_1 hc0_1
 have HR0_3 := Aside0.mk hr0_3
 have HC0_3 := Aside0.mk hc0_3
 clear hr0_3 hc0_3
 have HR1_1 := Aside0.mk hr1_1
 have HC1_1 := Aside0.mk hc1_1
 clear hr1_1 hc1_1
 have HR1_3 := Aside0.mk hr1_3
 have HC1_3 := Aside0.mk hc1_3
 clear hr1_3 hc1_3
 have HB := Aside0.mk (Below.refl w.heap.size w)
 have H : (if a0_0.toList = a1_0.toList then (if (a0_2 != a1_2) = true then (salchowref10_same.j0 QF k a2 true a0_0 l0_1 a0_2 l0_3 a0_4 a1_0 l1_1 a1_2 l1_3 a1_4) else (if (l0_1.length : Int) = (l1_1.length : Int) then (if a2 = true then (salchowref10_same.j0 QF k a2 (a0_4 != a1_4) a0_0 l0_1 a0_2 l0_3 a0_4 a1_0 l1_1 a1_2 l1_3 a1_4) else (salchowref10_same.j0 QF k a2 false a0_0 l0_1 a0_2 l0_3 a0_4 a1_0 l1_1 a1_2 l1_3 a1_4)) else (salchowref10_same.j0 QF k a2 true a0_0 l0_1 a0_2 l0_3 a0_4 a1_0 l1_1 a1_2 l1_3 a1_4))) else (salchowref10_same.j0 QF k a2 true a0_0 l0_1 a0_2 l0_3 a0_4 a1_0 l1_1 a1_2 l1_3 a1_4)) = some r := h
 clear h
 have HC4 := Aside0.mk H
 clear H
 go_enter Tryd.func54, Tryd.ntmps54
 go_upto_region 1 with (first | ((with_reducible refine gate_dst (N := 3) rfl ?_); (try (refine gate_guard (by rfl) ?_; dsimp only)); refine bx_ (N := 3) (cs := #[.string a0_0, .slice A0_1 l0_1.length c0_1, .bool a0_2, .slice A0_3 l0_3.length c0_3, .int .i64 a0_4]) (t := 41) ?_; intro gb101 hg w5 hbox hb; have n0_ := Aside0.mk (below_step (bl_ HB.out) hb); have n1_ := Aside0.mk (hbox); have n2_ := Aside0.mk (bz_ (w := w) hg (bl_ HB.out)); have n3_ := Aside0.mk (bz_ (w := w) hg (bl_ HB.out)); clear HB; have HB := n0_; have BK101 := n1_; have GW101 := n2_; have GE101 := n3_; clear n0_ n1_ n2_ n3_; clear hb hbox hg) | ((with_reducible refine gate_dst (N := 4) rfl ?_); (try (refine gate_guard (by rfl) ?_; dsimp only)); refine bx_ (N := 4) (cs := #[.string a1_0, .slice A1_1 l1_1.length c1_1, .bool a1_2, .slice A1_3 l1_3.length c1_3, .int .i64 a1_4]) (t := 41) ?_; intro gb102 hg w6 hbox hb; have n0_ := Aside0.mk (bb_ BK101.out hb); have n1_ := Aside0.mk (below_step (bl1_ HB.out GE101.out) hb); have n2_ := Aside0.mk (hbox); have n3_ := Aside0.mk (bz_ (w := w) hg (bl1_ HB.out GE101.out)); have n4_ := Aside0.mk (bz_ (w := w) hg (bl1_ HB.out GE101.out)); have n5_ := Aside0.mk (nl_ hg BK101.out); have n6_ := Aside0.mk (ng_ hg BK101.out); clear BK101; clear HB; have BK101 := n0_; have HB := n1_; have BK102 := n2_; have GW102 := n3_; have GE102 := n4_; have NB101_102 := n5_; have NB102_101 := n6_; clear n0_ n1_ n2_ n3_ n4_ n5_ n6_; clear hb hbox hg))
 (try simp only [Act.put, List.setIfInBounds_toArray, List.set_cons_zero, List.set_cons_succ])
 go_cut [40] (fun v40 wc => ∃ (kq : Nat) (x40_3 : Bool), v40 = .bool x40_3 ∧ Aside0 (salchowref10_same.j0 QF kq a2 x40_3 a0_0 l0_1 a0_2 l0_3 a0_4 a1_0 l1_1 a1_2 l1_3 a1_4 = some r) ∧ Aside0 (kq ≤ k) ∧ Aside0 (wc.heap[gb101]? = some (.cells #[.string a0_0, (.slice A0_1 l0_1.length c0_1), .bool a0_2, (.slice A0_3 l0_3.length c0_3), .int .i64 a0_4] 41 (0, 0))) ∧ Aside0 (wc.heap[gb102]? = some (.cells #[.string a1_0, (.slice A1_1 l1_1.length c1_1), .bool a1_2, (.slice A1_3 l1_3.length c1_3), .int .i64 a1_4] 41 (0, 0))) ∧ Aside0 (Below w.heap.size w wc))
 case first =>
  have H := HC4.out
  clear HC4
  by_cases c7 : a0_0.toList = a1_0.toList
  ·
   rw [if_pos c7] at H
   have c7b0 := beq_iff_eq.mpr c7
   have c7b1 := bne_eq_false_iff_eq.mpr c7
   clear c7
   (first | rw [c7b0] | (simp only [i64_w, i32_w]; rw [c7b0]) | skip)
   by_cases c8 : (a0_2 != a1_2) = true
   ·
    rw [if_pos c8] at H
    have c8b0 : (a0_2 != a1_2) = true := c8
    (try (have c8b1 : decide (a0_2 = a1_2) = false := by simpa using c8))
    (try (have c8b2 : (a0_2 == a1_2) = false := by simpa using c8))
    (try (have c8b3 : ¬ (a0_2 = a1_2) := by simpa using c8))
    clear c8
    have H' := Aside0.mk H
    clear H
    have hnb9 := NB101_102.out
    have hnc9 := NB102_101.out
    have hcz10_0 := cz_ (.string a0_0) BK101.out 0
    have hcz10_1 := cz_ (.slice A0_1 l0_1.length c0_1) BK101.out 1
    have hcz10_2 := cz_ (.bool a0_2) BK101.out 2
    have hcz10_3 := cz_ (.slice A0_3 l0_3.length c0_3) BK101.out 3
    have hcz10_4 := cz_ (.int .i64 a0_4) BK101.out 4
    have hfz10_0 := blk_frozen BK101.out 0
    have hfz10_1 := blk_frozen BK101.out 1
    have hfz10_2 := blk_frozen BK101.out 2
    have hfz10_3 := blk_frozen BK101.out 3
    have hfz10_4 := blk_frozen BK101.out 4
    have hcz11_0 := cz_ (.string a1_0) BK102.out 0
    have hcz11_1 := cz_ (.slice A1_1 l1_1.length c1_1) BK102.out 1
    have hcz11_2 := cz_ (.bool a1_2) BK102.out 2
    have hcz11_3 := cz_ (.slice A1_3 l1_3.length c1_3) BK102.out 3
    have hcz11_4 := cz_ (.int .i64 a1_4) BK102.out 4
    have hfz11_0 := blk_frozen BK102.out 0
    have hfz11_1 := blk_frozen BK102.out 1
    have hfz11_2 := blk_frozen BK102.out 2
    have hfz11_3 := blk_frozen BK102.out 3
    have hfz11_4 := blk_frozen BK102.out 4
    go_wp2
    go_meet
    case rel => exact ⟨_, (true), sr_, H', ⟨by first | omega | exact Nat.le_refl _⟩, ⟨by exact bk_ BK101.out⟩, ⟨by exact bk_ BK102.out⟩, ⟨bl2_ HB.out GE101.out GE102.out⟩⟩
   ·
    rw [if_neg c8] at H
    have c8b0 : (a0_2 != a1_2) = false := by simpa using c8
    (try (have c8b1 : decide (a0_2 = a1_2) = true := by simpa using c8))
    (try (have c8b2 : (a0_2 == a1_2) = true := by simpa using c8))
    clear c8
    by_cases c12 : (l0_1.length : Int) = (l1_1.length : Int)
    ·
     rw [if_pos c12] at H
     have c12b0 := beq_iff_eq.mpr c12
     have c12b1 := bne_eq_false_iff_eq.mpr c12
     have c12b2 : (l0_1.length == l1_1.length) = true := by first | simpa using c12 | (simp at c12 ⊢; omega)
     clear c12
     by_cases c13 : a2 = true
     ·
      subst c13
      have H1 : (salchowref10_same.j0 QF k true (a0_4 != a1_4) a0_0 l0_1 a0_2 l0_3 a0_4 a1_0 l1_1 a1_2 l1_3 a1_4) = some r := by rw [if_pos rfl] at H; exact H
      clear H
      have H := H1
      clear H1
      have H' := Aside0.mk H
      clear H
      have hnb14 := NB101_102.out
      have hnc14 := NB102_101.out
      have hcz15_0 := cz_ (.string a0_0) BK101.out 0
      have hcz15_1 := cz_ (.slice A0_1 l0_1.length c0_1) BK101.out 1
      have hcz15_2 := cz_ (.bool a0_2) BK101.out 2
      have hcz15_3 := cz_ (.slice A0_3 l0_3.length c0_3) BK101.out 3
      have hcz15_4 := cz_ (.int .i64 a0_4) BK101.out 4
      have hfz15_0 := blk_frozen BK101.out 0
      have hfz15_1 := blk_frozen BK101.out 1
      have hfz15_2 := blk_frozen BK101.out 2
      have hfz15_3 := blk_frozen BK101.out 3
      have hfz15_4 := blk_frozen BK101.out 4
      have hcz16_0 := cz_ (.string a1_0) BK102.out 0
      have hcz16_1 := cz_ (.slice A1_1 l1_1.length c1_1) BK102.out 1
      have hcz16_2 := cz_ (.bool a1_2) BK102.out 2
      have hcz16_3 := cz_ (.slice A1_3 l1_3.length c1_3) BK102.out 3
      have hcz16_4 := cz_ (.int .i64 a1_4) BK102.out 4
      have hfz16_0 := blk_frozen BK102.out 0
      have hfz16_1 := blk_frozen BK102.out 1
      have hfz16_2 := blk_frozen BK102.out 2
      have hfz16_3 := blk_frozen BK102.out 3
      have hfz16_4 := blk_frozen BK102.out 4
      go_wp2
      go_meet
      case rel => exact ⟨_, ((a0_4 != a1_4)), sr_, H', ⟨by first | omega | exact Nat.le_refl _⟩, ⟨by exact bk_ BK101.out⟩, ⟨by exact bk_ BK102.out⟩, ⟨bl2_ HB.out GE101.out GE102.out⟩⟩
     ·
      replace c13 := Bool.eq_false_iff.mpr c13
      subst c13
      have H1 : (salchowref10_same.j0 QF k false false a0_0 l0_1 a0_2 l0_3 a0_4 a1_0 l1_1 a1_2 l1_3 a1_4) = some r := by rw [if_neg (show ¬ (false = true) by decide)] at H; exact H
      clear H
      have H := H1
      clear H1
      have H' := Aside0.mk H
      clear H
      have hnb17 := NB101_102.out
      have hnc17 := NB102_101.out
      have hcz18_0 := cz_ (.string a0_0) BK101.out 0
      have hcz18_1 := cz_ (.slice A0_1 l0_1.length c0_1) BK101.out 1
      have hcz18_2 := cz_ (.bool a0_2) BK101.out 2
      have hcz18_3 := cz_ (.slice A0_3 l0_3.length c0_3) BK101.out 3
      have hcz18_4 := cz_ (.int .i64 a0_4) BK101.out 4
      have hfz18_0 := blk_frozen BK101.out 0
      have hfz18_1 := blk_frozen BK101.out 1
      have hfz18_2 := blk_frozen BK101.out 2
      have hfz18_3 := blk_frozen BK101.out 3
      have hfz18_4 := blk_frozen BK101.out 4
      have hcz19_0 := cz_ (.string a1_0) BK102.out 0
      have hcz19_1 := cz_ (.slice A1_1 l1_1.length c1_1) BK102.out 1
      have hcz19_2 := cz_ (.bool a1_2) BK102.out 2
      have hcz19_3 := cz_ (.slice A1_3 l1_3.length c1_3) BK102.out 3
      have hcz19_4 := cz_ (.int .i64 a1_4) BK102.out 4
      have hfz19_0 := blk_frozen BK102.out 0
      have hfz19_1 := blk_frozen BK102.out 1
      have hfz19_2 := blk_frozen BK102.out 2
      have hfz19_3 := blk_frozen BK102.out 3
      have hfz19_4 := blk_frozen BK102.out 4
      go_wp2
      go_meet
      case rel => exact ⟨_, (false), sr_, H', ⟨by first | omega | exact Nat.le_refl _⟩, ⟨by exact bk_ BK101.out⟩, ⟨by exact bk_ BK102.out⟩, ⟨bl2_ HB.out GE101.out GE102.out⟩⟩
    ·
     rw [if_neg c12] at H
     have c12b0 := beq_eq_false_iff_ne.mpr c12
     have c12b1 := bne_iff_ne.mpr c12
     have c12b2 : (l0_1.length == l1_1.length) = false := by first | simpa using c12 | (simp at c12 ⊢; omega)
     have H' := Aside0.mk H
     clear H
     have hnb20 := NB101_102.out
     have hnc20 := NB102_101.out
     have hcz21_0 := cz_ (.string a0_0) BK101.out 0
     have hcz21_1 := cz_ (.slice A0_1 l0_1.length c0_1) BK101.out 1
     have hcz21_2 := cz_ (.bool a0_2) BK101.out 2
     have hcz21_3 := cz_ (.slice A0_3 l0_3.length c0_3) BK101.out 3
     have hcz21_4 := cz_ (.int .i64 a0_4) BK101.out 4
     have hfz21_0 := blk_frozen BK101.out 0
     have hfz21_1 := blk_frozen BK101.out 1
     have hfz21_2 := blk_frozen BK101.out 2
     have hfz21_3 := blk_frozen BK101.out 3
     have hfz21_4 := blk_frozen BK101.out 4
     have hcz22_0 := cz_ (.string a1_0) BK102.out 0
     have hcz22_1 := cz_ (.slice A1_1 l1_1.length c1_1) BK102.out 1
     have hcz22_2 := cz_ (.bool a1_2) BK102.out 2
     have hcz22_3 := cz_ (.slice A1_3 l1_3.length c1_3) BK102.out 3
     have hcz22_4 := cz_ (.int .i64 a1_4) BK102.out 4
     have hfz22_0 := blk_frozen BK102.out 0
     have hfz22_1 := blk_frozen BK102.out 1
     have hfz22_2 := blk_frozen BK102.out 2
     have hfz22_3 := blk_frozen BK102.out 3
     have hfz22_4 := blk_frozen BK102.out 4
     go_wp2
     go_meet
     case rel => exact ⟨_, (true), sr_, H', ⟨by first | omega | exact Nat.le_refl _⟩, ⟨by exact bk_ BK101.out⟩, ⟨by exact bk_ BK102.out⟩, ⟨bl2_ HB.out GE101.out GE102.out⟩⟩
  ·
   rw [if_neg c7] at H
   have c7b0 := beq_eq_false_iff_ne.mpr c7
   have c7b1 := bne_iff_ne.mpr c7
   (first | rw [c7b0] | (simp only [i64_w, i32_w]; rw [c7b0]) | skip)
   have H' := Aside0.mk H
   clear H
   have hnb23 := NB101_102.out
   have hnc23 := NB102_101.out
   have hcz24_0 := cz_ (.string a0_0) BK101.out 0
   have hcz24_1 := cz_ (.slice A0_1 l0_1.length c0_1) BK101.out 1
   have hcz24_2 := cz_ (.bool a0_2) BK101.out 2
   have hcz24_3 := cz_ (.slice A0_3 l0_3.length c0_3) BK101.out 3
   have hcz24_4 := cz_ (.int .i64 a0_4) BK101.out 4
   have hfz24_0 := blk_frozen BK101.out 0
   have hfz24_1 := blk_frozen BK101.out 1
   have hfz24_2 := blk_frozen BK101.out 2
   have hfz24_3 := blk_frozen BK101.out 3
   have hfz24_4 := blk_frozen BK101.out 4
   have hcz25_0 := cz_ (.string a1_0) BK102.out 0
   have hcz25_1 := cz_ (.slice A1_1 l1_1.length c1_1) BK102.out 1
   have hcz25_2 := cz_ (.bool a1_2) BK102.out 2
   have hcz25_3 := cz_ (.slice A1_3 l1_3.length c1_3) BK102.out 3
   have hcz25_4 := cz_ (.int .i64 a1_4) BK102.out 4
   have hfz25_0 := blk_frozen BK102.out 0
   have hfz25_1 := blk_frozen BK102.out 1
   have hfz25_2 := blk_frozen BK102.out 2
   have hfz25_3 := blk_frozen BK102.out 3
   have hfz25_4 := blk_frozen BK102.out 4
   go_wp2
   go_meet
   case rel => exact ⟨_, (true), sr_, H', ⟨by first | omega | exact Nat.le_refl _⟩, ⟨by exact bk_ BK101.out⟩, ⟨by exact bk_ BK102.out⟩, ⟨bl2_ HB.out GE101.out GE102.out⟩⟩
 case rest =>
  clear HC4
  try clear c1
  try clear c2
  try clear p2
  try clear c5
  try clear c7
  try clear c7b0
  try clear c7b1
  try clear c8
  try clear c8b0
  try clear c8b1
  try clear c8b2
  try clear c9
  try clear c12
  try clear c12b0
  try clear c12b1
  try clear c12b2
  try clear c13
  try clear c14
  try clear c17
  try clear c20
  try clear c23
  try clear hcz10_0
  try clear hcz10_1
  try clear hcz10_2
  try clear hcz10_3
  try clear hcz10_4
  try clear hcz11_0
  try clear hcz11_1
  try clear hcz11_2
  try clear hcz11_3
  try clear hcz11_4
  try clear hcz15_0
  try clear hcz15_1
  try clear hcz15_2
  try clear hcz15_3
  try clear hcz15_4
  try clear hcz16_0
  try clear hcz16_1
  try clear hcz16_2
  try clear hcz16_3
  try clear hcz16_4
  try clear hcz18_0
  try clear hcz18_1
  try clear hcz18_2
  try clear hcz18_3
  try clear hcz18_4
  try clear hcz19_0
  try clear hcz19_1
  try clear hcz19_2
  try clear hcz19_3
  try clear hcz19_4
  try clear hcz21_0
  try clear hcz21_1
  try clear hcz21_2
  try clear hcz21_3
  try clear hcz21_4
  try clear hcz22_0
  try clear hcz22_1
  try clear hcz22_2
  try clear hcz22_3
  try clear hcz22_4
  try clear hcz24_0
  try clear hcz24_1
  try clear hcz24_2
  try clear hcz24_3
  try clear hcz24_4
  try clear hcz25_0
  try clear hcz25_1
  try clear hcz25_2
  try clear hcz25_3
  try clear hcz25_4
  try clear hfz10_0
  try clear hfz10_1
  try clear hfz10_2
  try clear hfz10_3
  try clear hfz10_4
  try clear hfz11_0
  try clear hfz11_1
  try clear hfz11_2
  try clear hfz11_3
  try clear hfz11_4
  try clear hfz15_0
  try clear hfz15_1
  try clear hfz15_2
  try clear hfz15_3
  try clear hfz15_4
  try clear hfz16_0
  try clear hfz16_1
  try clear hfz16_2
  try clear hfz16_3
  try clear hfz16_4
  try clear hfz18_0
  try clear hfz18_1
  try clear hfz18_2
  try clear hfz18_3
  try clear hfz18_4
  try clear hfz19_0
  try clear hfz19_1
  try clear hfz19_2
  try clear hfz19_3
  try clear hfz19_4
  try clear hfz21_0
  try clear hfz21_1
  try clear hfz21_2
  try clear hfz21_3
  try clear hfz21_4
  try clear hfz22_0
  try clear hfz22_1
  try clear hfz22_2
  try clear hfz22_3
  try clear hfz22_4
  try clear hfz24_0
  try clear hfz24_1
  try clear hfz24_2
  try clear hfz24_3
  try clear hfz24_4
  try clear hfz25_0
  try clear hfz25_1
  try clear hfz25_2
  try clear hfz25_3
  try clear hfz25_4
  obtain ⟨kq, x40_3, rfl, HA, HJ3, BK101, BK102, HB⟩ := hcut
  cases kq with
  | zero => exact absurd HA.out (by simp [salchowref10_same.j0])
  | succ kj3 =>
   have H := HA.out
   clear HA
   simp only [salchowref10_same.j0] at H
   by_cases c26 : x40_3 = true
   ·
    subst c26
    have H1 : (none) = some r := by rw [if_pos rfl] at H; exact H
    clear H
    have H := H1
    clear H1
    exact absurd H (by simp)
   ·
    replace c26 := Bool.eq_false_iff.mpr c26
    subst c26
    have H1 : (salchowref10_same.l0 QF kj3 a2 0 a0_0 l0_1 a0_2 l0_3 a0_4 a1_0 l1_1 a1_2 l1_3 a1_4) = some r := by rw [if_neg (show ¬ (false = true) by decide)] at H; exact H
    clear H
    have H := H1
    clear H1
    have H' := Aside0.mk H
    clear H
    go_wp2
    go_loopg [7] kj3 (fun kq v7 w' => ∃ (x7_2 : Int), v7 = .int .i64 x7_2 ∧ Aside0 (salchowref10_same.l0 QF kq a2 x7_2 a0_0 l0_1 a0_2 l0_3 a0_4 a1_0 l1_1 a1_2 l1_3 a1_4 = some r) ∧ Aside0 (kq ≤ kj3) ∧ Aside0 (w'.heap[gb101]? = some (.cells #[.string a0_0, (.slice A0_1 l0_1.length c0_1), .bool a0_2, (.slice A0_3 l0_3.length c0_3), .int .i64 a0_4] 41 (0, 0))) ∧ Aside0 (w'.heap[gb102]? = some (.cells #[.string a1_0, (.slice A1_1 l1_1.length c1_1), .bool a1_2, (.slice A1_3 l1_3.length c1_3), .int .i64 a1_4] 41 (0, 0))) ∧ Aside0 (Below w.heap.size w w'))
    case atStart => exact ⟨(0), sr_, H', ⟨Nat.le_refl _⟩, ⟨by exact bk_ BK101.out⟩, ⟨by exact bk_ BK102.out⟩, ⟨bl2_ HB.out GE101.out GE102.out⟩⟩
    case round =>
     clear H'
     try clear c1
     try clear c2
     try clear p2
     try clear c5
     try clear c7
     try clear c7b0
     try clear c7b1
     try clear c8
     try clear c8b0
     try clear c8b1
     try clear c8b2
     try clear c9
     try clear c12
     try clear c12b0
     try clear c12b1
     try clear c12b2
     try clear c13
     try clear c14
     try clear c17
     try clear c20
     try clear c23
     try clear c26
     try clear hcz10_0
     try clear hcz10_1
     try clear hcz10_2
     try clear hcz10_3
     try clear hcz10_4
     try clear hcz11_0
     try clear hcz11_1
     try clear hcz11_2
     try clear hcz11_3
     try clear hcz11_4
     try clear hcz15_0
     try clear hcz15_1
     try clear hcz15_2
     try clear hcz15_3
     try clear hcz15_4
     try clear hcz16_0
     try clear hcz16_1
     try clear hcz16_2
     try clear hcz16_3
     try clear hcz16_4
     try clear hcz18_0
     try clear hcz18_1
     try clear hcz18_2
     try clear hcz18_3
     try clear hcz18_4
     try clear hcz19_0
     try clear hcz19_1
     try clear hcz19_2
     try clear hcz19_3
     try clear hcz19_4
     try clear hcz21_0
     try clear hcz21_1
     try clear hcz21_2
     try clear hcz21_3
     try clear hcz21_4
     try clear hcz22_0
     try clear hcz22_1
     try clear hcz22_2
     try clear hcz22_3
     try clear hcz22_4
     try clear hcz24_0
     try clear hcz24_1
     try clear hcz24_2
     try clear hcz24_3
     try clear hcz24_4
     try clear hcz25_0
     try clear hcz25_1
     try clear hcz25_2
     try clear hcz25_3
     try clear hcz25_4
     try clear hfz10_0
     try clear hfz10_1
     try clear hfz10_2
     try clear hfz10_3
     try clear hfz10_4
     try clear hfz11_0
     try clear hfz11_1
     try clear hfz11_2
     try clear hfz11_3
     try clear hfz11_4
     try clear hfz15_0
     try clear hfz15_1
     try clear hfz15_2
     try clear hfz15_3
     try clear hfz15_4
     try clear hfz16_0
     try clear hfz16_1
     try clear hfz16_2
     try clear hfz16_3
     try clear hfz16_4
     try clear hfz18_0
     try clear hfz18_1
     try clear hfz18_2
     try clear hfz18_3
     try clear hfz18_4
     try clear hfz19_0
     try clear hfz19_1
     try clear hfz19_2
     try clear hfz19_3
     try clear hfz19_4
     try clear hfz21_0
     try clear hfz21_1
     try clear hfz21_2
     try clear hfz21_3
     try clear hfz21_4
     try clear hfz22_0
     try clear hfz22_1
     try clear hfz22_2
     try clear hfz22_3
     try clear hfz22_4
     try clear hfz24_0
     try clear hfz24_1
     try clear hfz24_2
     try clear hfz24_3
     try clear hfz24_4
     try clear hfz25_0
     try clear hfz25_1
     try clear hfz25_2
     try clear hfz25_3
     try clear hfz25_4
     try clear p2
     obtain ⟨x7_2, rfl, HA, HK2, BK101, BK102, HB⟩ := hrel
     cases gk with
     | zero => exact absurd HA.out (by simp [salchowref10_same.l0])
     | succ k2 =>
      have H := HA.out
      clear HA
      simp only [salchowref10_same.l0] at H
      by_cases c27 : x7_2 < (l0_1.length : Int)
      ·
       rw [if_pos c27] at H
       have c27b0 := decide_eq_true c27
       clear c27
       by_cases c28 : 0 ≤ x7_2
       ·
        rw [if_pos c28] at H
        have c28b0 := decide_eq_true c28
        clear c28
        by_cases c29 : x7_2 < (l1_1.length : Int)
        ·
         rw [if_pos c29] at H
         have c29b0 := decide_eq_true c29
         clear c29
         by_cases c30 : ((rd_T46 l0_1 x7_2).f0) = ((rd_T46 l1_1 x7_2).f0)
         ·
          rw [if_pos c30] at H
          have c30b0 := beq_iff_eq.mpr c30
          have c30b1 := bne_eq_false_iff_eq.mpr c30
          clear c30
          by_cases c31 : ((rd_T46 l0_1 x7_2).f1).toList = ((rd_T46 l1_1 x7_2).f1).toList
          ·
           rw [if_pos c31] at H
           have c31b0 := beq_iff_eq.mpr c31
           have c31b1 := bne_eq_false_iff_eq.mpr c31
           clear c31
           by_cases c32 : ((rd_T46 l0_1 x7_2).f2) = ((rd_T46 l1_1 x7_2).f2)
           ·
            rw [if_pos c32] at H
            have c32b0 := beq_iff_eq.mpr c32
            have c32b1 := bne_eq_false_iff_eq.mpr c32
            clear c32
            by_cases c33 : a2 = true
            ·
             subst c33
             have H1 : (if ((rd_T46 l0_1 x7_2).f3) = ((rd_T46 l1_1 x7_2).f3) then (salchowref10_same.l0 QF k2 true (wrap64 (x7_2 + 1)) a0_0 l0_1 a0_2 l0_3 a0_4 a1_0 l1_1 a1_2 l1_3 a1_4) else (none)) = some r := by rw [if_pos rfl] at H; exact H
             clear H
             have H := H1
             clear H1
             by_cases c34 : ((rd_T46 l0_1 x7_2).f3) = ((rd_T46 l1_1 x7_2).f3)
             ·
              rw [if_pos c34] at H
              have c34b0 := beq_iff_eq.mpr c34
              have c34b1 := bne_eq_false_iff_eq.mpr c34
              clear c34
              have H' := Aside0.mk H
              clear H
              have hnb35 := NB101_102.out
              have hnc35 := NB102_101.out
              have hcz36_0 := cz_ (.string a0_0) BK101.out 0
              have hcz36_1 := cz_ (.slice A0_1 l0_1.length c0_1) BK101.out 1
              have hcz36_2 := cz_ (.bool a0_2) BK101.out 2
              have hcz36_3 := cz_ (.slice A0_3 l0_3.length c0_3) BK101.out 3
              have hcz36_4 := cz_ (.int .i64 a0_4) BK101.out 4
              have hfz36_0 := blk_frozen BK101.out 0
              have hfz36_1 := blk_frozen BK101.out 1
              have hfz36_2 := blk_frozen BK101.out 2
              have hfz36_3 := blk_frozen BK101.out 3
              have hfz36_4 := blk_frozen BK101.out 4
              try go_wp2
              refine cut3_ (blk_drew BK101.out) (blk_drew BK102.out) (below_drew1 HB.out) ?_
              clear BK101 BK102 HB
              intro BK101 BK102 HB
              have p103 : 0 ≤ (x7_2 : Int) := dt_
              have q103 : x7_2 < (l0_1.length : Int) := dt_
              obtain ⟨ad103, e103, hx103_0, hx103_1, hx103_2, hx103_3⟩ := at_T46 HR0_1.out x7_2 p103 q103
              have hw103_3 := hx103_3
              have hw103_2 := hx103_2
              have hw103_1 := hx103_1
              have hw103_0 := hx103_0
              cases e103
              replace hx103_0 := pw_cell_below HB.out hx103_0
              replace hx103_1 := pw_cell_below HB.out hx103_1
              replace hx103_2 := pw_cell_below HB.out hx103_2
              replace hx103_3 := pw_cell_below HB.out hx103_3
              replace p103 := eq_true p103
              replace q103 := eq_true q103
              have p104 : 0 ≤ (x7_2 : Int) := dt_
              have q104 : x7_2 < (l1_1.length : Int) := dt_
              obtain ⟨ad104, e104, hx104_0, hx104_1, hx104_2, hx104_3⟩ := at_T46 HR1_1.out x7_2 p104 q104
              have hw104_3 := hx104_3
              have hw104_2 := hx104_2
              have hw104_1 := hx104_1
              have hw104_0 := hx104_0
              cases e104
              replace hx104_0 := pw_cell_below HB.out hx104_0
              replace hx104_1 := pw_cell_below HB.out hx104_1
              replace hx104_2 := pw_cell_below HB.out hx104_2
              replace hx104_3 := pw_cell_below HB.out hx104_3
              replace p104 := eq_true p104
              replace q104 := eq_true q104
              refine start_ (n := 14) (S := fun w' => w'.cell? ⟨gb101, 0, none⟩ = some (.string a0_0) ∧ w'.cell? ⟨gb101, 1, none⟩ = some (.slice (some ad103) l0_1.length c0_1) ∧ w'.cell? ⟨gb101, 2, none⟩ = some (.bool a0_2) ∧ w'.cell? ⟨gb101, 3, none⟩ = some (.slice A0_3 l0_3.length c0_3) ∧ w'.cell? ⟨gb101, 4, none⟩ = some (.int .i64 a0_4) ∧ w'.cell? ⟨gb102, 0, none⟩ = some (.string a1_0) ∧ w'.cell? ⟨gb102, 1, none⟩ = some (.slice (some ad104) l1_1.length c1_1) ∧ w'.cell? ⟨gb102, 2, none⟩ = some (.bool a1_2) ∧ w'.cell? ⟨gb102, 3, none⟩ = some (.slice A1_3 l1_3.length c1_3) ∧ w'.cell? ⟨gb102, 4, none⟩ = some (.int .i64 a1_4) ∧ w'.cell? (ad103.add ((x7_2).toNat * 4)) = some (.int .i64 ((rd_T46 l0_1 x7_2).f0)) ∧ w'.cell? ⟨(ad103.add ((x7_2).toNat * 4)).block, (ad103.add ((x7_2).toNat * 4)).off + 1, none⟩ = some (.string ((rd_T46 l0_1 x7_2).f1)) ∧ w'.cell? ⟨(ad103.add ((x7_2).toNat * 4)).block, (ad103.add ((x7_2).toNat * 4)).off + 2, none⟩ = some (.int .i64 ((rd_T46 l0_1 x7_2).f2)) ∧ w'.cell? ⟨(ad103.add ((x7_2).toNat * 4)).block, (ad103.add ((x7_2).toNat * 4)).off + 3, none⟩ = some (.int .i64 ((rd_T46 l0_1 x7_2).f3)) ∧ w'.cell? (ad104.add ((x7_2).toNat * 4)) = some (.int .i64 ((rd_T46 l1_1 x7_2).f0)) ∧ w'.cell? ⟨(ad104.add ((x7_2).toNat * 4)).block, (ad104.add ((x7_2).toNat * 4)).off + 1, none⟩ = some (.string ((rd_T46 l1_1 x7_2).f1)) ∧ w'.cell? ⟨(ad104.add ((x7_2).toNat * 4)).block, (ad104.add ((x7_2).toNat * 4)).off + 2, none⟩ = some (.int .i64 ((rd_T46 l1_1 x7_2).f2)) ∧ w'.cell? ⟨(ad104.add ((x7_2).toNat * 4)).block, (ad104.add ((x7_2).toNat * 4)).off + 3, none⟩ = some (.int .i64 ((rd_T46 l1_1 x7_2).f3))) (ds := []) #[false, false, false, false, false, false, false, false, false, false, false, false, false, false] (by kernel_rfl) rfl rfl ⟨(blk_cell BK101.out 0).trans rfl, (blk_cell BK101.out 1).trans rfl, (blk_cell BK101.out 2).trans rfl, (blk_cell BK101.out 3).trans rfl, (blk_cell BK101.out 4).trans rfl, (blk_cell BK102.out 0).trans rfl, (blk_cell BK102.out 1).trans rfl, (blk_cell BK102.out 2).trans rfl, (blk_cell BK102.out 3).trans rfl, (blk_cell BK102.out 4).trans rfl, ((HB.out.cell (World.block_lt_of_cell? w _ hw103_0)).trans hw103_0), ((HB.out.cell (World.block_lt_of_cell? w _ hw103_1)).trans hw103_1), ((HB.out.cell (World.block_lt_of_cell? w _ hw103_2)).trans hw103_2), ((HB.out.cell (World.block_lt_of_cell? w _ hw103_3)).trans hw103_3), ((HB.out.cell (World.block_lt_of_cell? w _ hw104_0)).trans hw104_0), ((HB.out.cell (World.block_lt_of_cell? w _ hw104_1)).trans hw104_1), ((HB.out.cell (World.block_lt_of_cell? w _ hw104_2)).trans hw104_2), ((HB.out.cell (World.block_lt_of_cell? w _ hw104_3)).trans hw104_3)⟩ (fun hHeld => ?_); refine with_tabW salchowref10_same.tab6 salchowref10_same.bits6 (fun HT_ HW_ => ?_)
              generalize wr.drew = w37 at BK101 BK102 HB hx103_0 hx103_1 hx103_2 hx103_3 hx104_0 hx104_1 hx104_2 hx104_3 hHeld ⊢
              refine pr_ (i := 0) (N := some 48) #[true, false, false, false, false, false, false, false, false, false, false, false, false, false] (any_of HT_.out (by kernel_rfl)) ?_
              refine pr_ (i := 2) (N := some 50) #[true, false, true, false, false, false, false, false, false, false, false, false, false, false] (any_of HT_.out (by kernel_rfl)) ?_
              refine pr_ (i := 5) (N := some 53) #[true, false, true, false, false, true, false, false, false, false, false, false, false, false] (any_of HT_.out (by kernel_rfl)) ?_
              refine pr_ (i := 7) (N := some 55) #[true, false, true, false, false, true, false, true, false, false, false, false, false, false] (any_of HT_.out (by kernel_rfl)) ?_
              refine take_ (i := 1) (N := some 49) (v := ?_) (a' := ?_) #[true, true, true, false, false, true, false, true, false, false, false, false, false, false] rfl rfl (take_ofW HT_.out HW_.out (by kernel_rfl)) (fun _ _ _ h => h) (Or.inl ⟨by rfl, ?_⟩) hHeld ?_ ?_
              rotate_left
              ·
               rintro w' ⟨s0, s1, s2, s3, s4, s5, s6, s7, s8, s9, s10, s11, s12, s13, s14, s15, s16, s17⟩
               go_simp
               with_reducible rfl
              rotate_left
              ·
               simp only [Act.put, List.setIfInBounds_toArray, List.set_cons_zero, List.set_cons_succ, i64_w, i32_w]
               rfl
              refine pr_ (i := 3) (N := some 51) #[true, true, true, true, false, true, false, true, false, false, false, false, false, false] (any_of HT_.out (by kernel_rfl)) ?_
              refine take_ (i := 4) (N := some 52) (v := ?_) (a' := ?_) #[true, true, true, true, true, true, false, true, false, false, false, false, false, false] rfl rfl (take_ofW HT_.out HW_.out (by kernel_rfl)) (fun _ _ _ h => h) (Or.inl ⟨by rfl, ?_⟩) hHeld ?_ ?_
              rotate_left
              ·
               rintro w' ⟨s0, s1, s2, s3, s4, s5, s6, s7, s8, s9, s10, s11, s12, s13, s14, s15, s16, s17⟩
               go_simp
               with_reducible rfl
              rotate_left
              ·
               simp only [Act.put, List.setIfInBounds_toArray, List.set_cons_zero, List.set_cons_succ, i64_w, i32_w]
               rfl
              refine take_ (i := 6) (N := some 54) (v := ?_) (a' := ?_) #[true, true, true, true, true, true, true, true, false, false, false, false, false, false] rfl rfl (take_ofW HT_.out HW_.out (by kernel_rfl)) (fun _ _ _ h => h) (Or.inl ⟨by rfl, ?_⟩) hHeld ?_ ?_
              rotate_left
              ·
               rintro w' ⟨s0, s1, s2, s3, s4, s5, s6, s7, s8, s9, s10, s11, s12, s13, s14, s15, s16, s17⟩
               go_simp
               with_reducible rfl
              rotate_left
              ·
               simp only [Act.put, List.setIfInBounds_toArray, List.set_cons_zero, List.set_cons_succ, i64_w, i32_w]
               rfl
              refine pr_ (i := 8) (N := some 56) #[true, true, true, true, true, true, true, true, true, false, false, false, false, false] (any_of HT_.out (by kernel_rfl)) ?_
              refine take_ (i := 9) (N := some 57) (v := ?_) (a' := ?_) #[true, true, true, true, true, true, true, true, true, true, false, false, false, false] rfl rfl (take_ofW HT_.out HW_.out (by kernel_rfl)) (fun _ _ _ h => h) (Or.inl ⟨by rfl, ?_⟩) hHeld ?_ ?_
              rotate_left
              ·
               rintro w' ⟨s0, s1, s2, s3, s4, s5, s6, s7, s8, s9, s10, s11, s12, s13, s14, s15, s16, s17⟩
               go_simp
               with_reducible rfl
              rotate_left
              ·
               simp only [Act.put, List.setIfInBounds_toArray, List.set_cons_zero, List.set_cons_succ, i64_w, i32_w]
               rfl
              refine join_ (σ := Nat × Nat) 2 #[true, true, true, true, true, true, true, true, true, true, true, true, false, false] (fun s_ => [(8, .pointer (some ⟨s_.1, 0, none⟩)), (9, .pointer (some ⟨s_.2, 0, none⟩))]) (fun s_ w' => (w'.cell? ⟨gb101, 0, none⟩ = some (.string a0_0) ∧ w'.cell? ⟨gb101, 1, none⟩ = some (.slice (some ad103) l0_1.length c0_1) ∧ w'.cell? ⟨gb101, 2, none⟩ = some (.bool a0_2) ∧ w'.cell? ⟨gb101, 3, none⟩ = some (.slice A0_3 l0_3.length c0_3) ∧ w'.cell? ⟨gb101, 4, none⟩ = some (.int .i64 a0_4) ∧ w'.cell? ⟨gb102, 0, none⟩ = some (.string a1_0) ∧ w'.cell? ⟨gb102, 1, none⟩ = some (.slice (some ad104) l1_1.length c1_1) ∧ w'.cell? ⟨gb102, 2, none⟩ = some (.bool a1_2) ∧ w'.cell? ⟨gb102, 3, none⟩ = some (.slice A1_3 l1_3.length c1_3) ∧ w'.cell? ⟨gb102, 4, none⟩ = some (.int .i64 a1_4) ∧ w'.cell? (ad103.add ((x7_2).toNat * 4)) = some (.int .i64 ((rd_T46 l0_1 x7_2).f0)) ∧ w'.cell? ⟨(ad103.add ((x7_2).toNat * 4)).block, (ad103.add ((x7_2).toNat * 4)).off + 1, none⟩ = some (.string ((rd_T46 l0_1 x7_2).f1)) ∧ w'.cell? ⟨(ad103.add ((x7_2).toNat * 4)).block, (ad103.add ((x7_2).toNat * 4)).off + 2, none⟩ = some (.int .i64 ((rd_T46 l0_1 x7_2).f2)) ∧ w'.cell? ⟨(ad103.add ((x7_2).toNat * 4)).block, (ad103.add ((x7_2).toNat * 4)).off + 3, none⟩ = some (.int .i64 ((rd_T46 l0_1 x7_2).f3)) ∧ w'.cell? (ad104.add ((x7_2).toNat * 4)) = some (.int .i64 ((rd_T46 l1_1 x7_2).f0)) ∧ w'.cell? ⟨(ad104.add ((x7_2).toNat * 4)).block, (ad104.add ((x7_2).toNat * 4)).off + 1, none⟩ = some (.string ((rd_T46 l1_1 x7_2).f1)) ∧ w'.cell? ⟨(ad104.add ((x7_2).toNat * 4)).block, (ad104.add ((x7_2).toNat * 4)).off + 2, none⟩ = some (.int .i64 ((rd_T46 l1_1 x7_2).f2)) ∧ w'.cell? ⟨(ad104.add ((x7_2).toNat * 4)).block, (ad104.add ((x7_2).toNat * 4)).off + 3, none⟩ = some (.int .i64 ((rd_T46 l1_1 x7_2).f3))) ∧ (w'.heap[gb101]? = some (.cells #[.string a0_0, .slice (some ad103) l0_1.length c0_1, .bool a0_2, .slice A0_3 l0_3.length c0_3, .int .i64 a0_4] 41 (0, 0))) ∧ (w'.heap[gb102]? = some (.cells #[.string a1_0, .slice (some ad104) l1_1.length c1_1, .bool a1_2, .slice A1_3 l1_3.length c1_3, .int .i64 a1_4] 41 (0, 0))) ∧ (w'.heap[s_.1]? = some (.cells #[.int .i64 0, .string (⟨#[]⟩ : ByteArray), .int .i64 0, .int .i64 0] 46 (0, 0))) ∧ (w'.heap[s_.2]? = some (.cells #[.int .i64 0, .string (⟨#[]⟩ : ByteArray), .int .i64 0, .int .i64 0] 46 (0, 0))) ∧ (w.heap.size ≤ s_.1) ∧ (w.heap.size ≤ s_.1) ∧ (gb101 ≠ s_.1) ∧ (s_.1 ≠ gb101) ∧ (gb102 ≠ s_.1) ∧ (s_.1 ≠ gb102) ∧ (s_.2 ≠ s_.1) ∧ (s_.1 ≠ s_.2) ∧ (w.heap.size ≤ s_.2) ∧ (w.heap.size ≤ s_.2) ∧ (gb101 ≠ s_.2) ∧ (s_.2 ≠ gb101) ∧ (gb102 ≠ s_.2) ∧ (s_.2 ≠ gb102) ∧ (Below w.heap.size w w')) ?_ ?_
              rotate_left
              ·
               intro hCont
               refine two_ (i := 10) (j := 11) (Ni := some 8) (Nj := some 9) #[true, true, true, true, true, true, true, true, true, true, true, false, false, false] #[true, true, true, true, true, true, true, true, true, true, false, true, false, false] rfl rfl rfl rfl (two_of HT_.out (by kernel_rfl)) (by decide) (by decide) (fun K hK => ?_) (fun K hK => ?_)
               ·
                skip
                refine box_step ?hg (N := 8) ?hd (cs := #[.int .i64 0, .string (⟨#[]⟩ : ByteArray), .int .i64 0, .int .i64 0]) (t := 46) ?hr ?_; (case hd => rfl); (case hg => rfl); (case hr => first | (go_simp; done) | (go_simp; rfl))
                intro gb105 hg w38 hbox hb
                refine cut10_ (bb_ BK101.out hb) (bb_ BK102.out hb) (below_step (bl2_ HB.out GE101.out GE102.out) hb) (hbox) (bz_ (w := w) hg (bl2_ HB.out GE101.out GE102.out)) (bz_ (w := w) hg (bl2_ HB.out GE101.out GE102.out)) (nl_ hg BK101.out) (ng_ hg BK101.out) (nl_ hg BK102.out) (ng_ hg BK102.out) ?_
                clear BK101 BK102 HB
                intro BK101 BK102 HB BK105 GW105 GE105 NB101_105 NB105_101 NB102_105 NB105_102
                clear hb hbox hg
                refine hK.out _ _ ⟨(blk_cell BK101.out 0).trans rfl, (blk_cell BK101.out 1).trans rfl, (blk_cell BK101.out 2).trans rfl, (blk_cell BK101.out 3).trans rfl, (blk_cell BK101.out 4).trans rfl, (blk_cell BK102.out 0).trans rfl, (blk_cell BK102.out 1).trans rfl, (blk_cell BK102.out 2).trans rfl, (blk_cell BK102.out 3).trans rfl, (blk_cell BK102.out 4).trans rfl, ((HB.out.cell (World.block_lt_of_cell? w _ hw103_0)).trans hw103_0), ((HB.out.cell (World.block_lt_of_cell? w _ hw103_1)).trans hw103_1), ((HB.out.cell (World.block_lt_of_cell? w _ hw103_2)).trans hw103_2), ((HB.out.cell (World.block_lt_of_cell? w _ hw103_3)).trans hw103_3), ((HB.out.cell (World.block_lt_of_cell? w _ hw104_0)).trans hw104_0), ((HB.out.cell (World.block_lt_of_cell? w _ hw104_1)).trans hw104_1), ((HB.out.cell (World.block_lt_of_cell? w _ hw104_2)).trans hw104_2), ((HB.out.cell (World.block_lt_of_cell? w _ hw104_3)).trans hw104_3)⟩ (fun hHeld => ?_)
                clear hK K
                refine norm_ (a' := ?_) ?_ ?_
                rotate_left
                ·
                 show Act.put _ (some 8) _ = _
                 simp only [Act.put, List.setIfInBounds_toArray, List.set_cons_zero, List.set_cons_succ, i64_w, i32_w]
                 rfl
                refine one_ (i := 11) (N := some 9) #[true, true, true, true, true, true, true, true, true, true, true, true, false, false] rfl rfl (one_of HT_.out (by kernel_rfl)) (by decide) (fun K hK => ?_)
                refine box_step ?hg (N := 9) ?hd (cs := #[.int .i64 0, .string (⟨#[]⟩ : ByteArray), .int .i64 0, .int .i64 0]) (t := 46) ?hr ?_; (case hd => rfl); (case hg => rfl); (case hr => first | (go_simp; done) | (go_simp; rfl))
                intro gb106 hg w39 hbox hb
                refine cut13_ (bb_ BK101.out hb) (bb_ BK102.out hb) (bb_ BK105.out hb) (below_step (bl3_ HB.out GE101.out GE102.out GE105.out) hb) (hbox) (bz_ (w := w) hg (bl3_ HB.out GE101.out GE102.out GE105.out)) (bz_ (w := w) hg (bl3_ HB.out GE101.out GE102.out GE105.out)) (nl_ hg BK101.out) (ng_ hg BK101.out) (nl_ hg BK102.out) (ng_ hg BK102.out) (nl_ hg BK105.out) (ng_ hg BK105.out) ?_
                clear BK101 BK102 BK105 HB
                intro BK101 BK102 BK105 HB BK106 GW106 GE106 NB101_106 NB106_101 NB102_106 NB106_102 NB105_106 NB106_105
                clear hb hbox hg
                refine hK.out _ _ ⟨(blk_cell BK101.out 0).trans rfl, (blk_cell BK101.out 1).trans rfl, (blk_cell BK101.out 2).trans rfl, (blk_cell BK101.out 3).trans rfl, (blk_cell BK101.out 4).trans rfl, (blk_cell BK102.out 0).trans rfl, (blk_cell BK102.out 1).trans rfl, (blk_cell BK102.out 2).trans rfl, (blk_cell BK102.out 3).trans rfl, (blk_cell BK102.out 4).trans rfl, ((HB.out.cell (World.block_lt_of_cell? w _ hw103_0)).trans hw103_0), ((HB.out.cell (World.block_lt_of_cell? w _ hw103_1)).trans hw103_1), ((HB.out.cell (World.block_lt_of_cell? w _ hw103_2)).trans hw103_2), ((HB.out.cell (World.block_lt_of_cell? w _ hw103_3)).trans hw103_3), ((HB.out.cell (World.block_lt_of_cell? w _ hw104_0)).trans hw104_0), ((HB.out.cell (World.block_lt_of_cell? w _ hw104_1)).trans hw104_1), ((HB.out.cell (World.block_lt_of_cell? w _ hw104_2)).trans hw104_2), ((HB.out.cell (World.block_lt_of_cell? w _ hw104_3)).trans hw104_3)⟩ (fun hHeld => ?_)
                clear hK K
                refine norm_ (a' := ?_) ?_ ?_
                rotate_left
                ·
                 show Act.put _ (some 9) _ = _
                 simp only [Act.put, List.setIfInBounds_toArray, List.set_cons_zero, List.set_cons_succ, i64_w, i32_w]
                 rfl
                exact norm_ (by simp only [putAll, Act.put, List.setIfInBounds_toArray, List.set_cons_zero, List.set_cons_succ]) (hCont (gb105, gb106) _ ⟨hHeld, (bk_ BK101.out), (bk_ BK102.out), (bk_ BK105.out), (bk_ BK106.out), GW105.out, GE105.out, NB101_105.out, NB105_101.out, NB102_105.out, NB105_102.out, NB106_105.out, NB105_106.out, GW106.out, GE106.out, NB101_106.out, NB106_101.out, NB102_106.out, NB106_102.out, (bl4_ HB.out GE101.out GE102.out GE105.out GE106.out)⟩)
               ·
                skip
                refine box_step ?hg (N := 9) ?hd (cs := #[.int .i64 0, .string (⟨#[]⟩ : ByteArray), .int .i64 0, .int .i64 0]) (t := 46) ?hr ?_; (case hd => rfl); (case hg => rfl); (case hr => first | (go_simp; done) | (go_simp; rfl))
                intro gb106 hg w38 hbox hb
                refine cut10_ (bb_ BK101.out hb) (bb_ BK102.out hb) (below_step (bl2_ HB.out GE101.out GE102.out) hb) (hbox) (bz_ (w := w) hg (bl2_ HB.out GE101.out GE102.out)) (bz_ (w := w) hg (bl2_ HB.out GE101.out GE102.out)) (nl_ hg BK101.out) (ng_ hg BK101.out) (nl_ hg BK102.out) (ng_ hg BK102.out) ?_
                clear BK101 BK102 HB
                intro BK101 BK102 HB BK106 GW106 GE106 NB101_106 NB106_101 NB102_106 NB106_102
                clear hb hbox hg
                refine hK.out _ _ ⟨(blk_cell BK101.out 0).trans rfl, (blk_cell BK101.out 1).trans rfl, (blk_cell BK101.out 2).trans rfl, (blk_cell BK101.out 3).trans rfl, (blk_cell BK101.out 4).trans rfl, (blk_cell BK102.out 0).trans rfl, (blk_cell BK102.out 1).trans rfl, (blk_cell BK102.out 2).trans rfl, (blk_cell BK102.out 3).trans rfl, (blk_cell BK102.out 4).trans rfl, ((HB.out.cell (World.block_lt_of_cell? w _ hw103_0)).trans hw103_0), ((HB.out.cell (World.block_lt_of_cell? w _ hw103_1)).trans hw103_1), ((HB.out.cell (World.block_lt_of_cell? w _ hw103_2)).trans hw103_2), ((HB.out.cell (World.block_lt_of_cell? w _ hw103_3)).trans hw103_3), ((HB.out.cell (World.block_lt_of_cell? w _ hw104_0)).trans hw104_0), ((HB.out.cell (World.block_lt_of_cell? w _ hw104_1)).trans hw104_1), ((HB.out.cell (World.block_lt_of_cell? w _ hw104_2)).trans hw104_2), ((HB.out.cell (World.block_lt_of_cell? w _ hw104_3)).trans hw104_3)⟩ (fun hHeld => ?_)
                clear hK K
                refine norm_ (a' := ?_) ?_ ?_
                rotate_left
                ·
                 show Act.put _ (some 9) _ = _
                 simp only [Act.put, List.setIfInBounds_toArray, List.set_cons_zero, List.set_cons_succ, i64_w, i32_w]
                 rfl
                refine one_ (i := 10) (N := some 8) #[true, true, true, true, true, true, true, true, true, true, true, true, false, false] rfl rfl (one_of HT_.out (by kernel_rfl)) (by decide) (fun K hK => ?_)
                refine box_step ?hg (N := 8) ?hd (cs := #[.int .i64 0, .string (⟨#[]⟩ : ByteArray), .int .i64 0, .int .i64 0]) (t := 46) ?hr ?_; (case hd => rfl); (case hg => rfl); (case hr => first | (go_simp; done) | (go_simp; rfl))
                intro gb105 hg w39 hbox hb
                refine cut13_ (bb_ BK101.out hb) (bb_ BK102.out hb) (bb_ BK106.out hb) (below_step (bl3_ HB.out GE101.out GE102.out GE106.out) hb) (hbox) (bz_ (w := w) hg (bl3_ HB.out GE101.out GE102.out GE106.out)) (bz_ (w := w) hg (bl3_ HB.out GE101.out GE102.out GE106.out)) (nl_ hg BK101.out) (ng_ hg BK101.out) (nl_ hg BK102.out) (ng_ hg BK102.out) (nl_ hg BK106.out) (ng_ hg BK106.out) ?_
                clear BK101 BK102 BK106 HB
                intro BK101 BK102 BK106 HB BK105 GW105 GE105 NB101_105 NB105_101 NB102_105 NB105_102 NB106_105 NB105_106
                clear hb hbox hg
                refine hK.out _ _ ⟨(blk_cell BK101.out 0).trans rfl, (blk_cell BK101.out 1).trans rfl, (blk_cell BK101.out 2).trans rfl, (blk_cell BK101.out 3).trans rfl, (blk_cell BK101.out 4).trans rfl, (blk_cell BK102.out 0).trans rfl, (blk_cell BK102.out 1).trans rfl, (blk_cell BK102.out 2).trans rfl, (blk_cell BK102.out 3).trans rfl, (blk_cell BK102.out 4).trans rfl, ((HB.out.cell (World.block_lt_of_cell? w _ hw103_0)).trans hw103_0), ((HB.out.cell (World.block_lt_of_cell? w _ hw103_1)).trans hw103_1), ((HB.out.cell (World.block_lt_of_cell? w _ hw103_2)).trans hw103_2), ((HB.out.cell (World.block_lt_of_cell? w _ hw103_3)).trans hw103_3), ((HB.out.cell (World.block_lt_of_cell? w _ hw104_0)).trans hw104_0), ((HB.out.cell (World.block_lt_of_cell? w _ hw104_1)).trans hw104_1), ((HB.out.cell (World.block_lt_of_cell? w _ hw104_2)).trans hw104_2), ((HB.out.cell (World.block_lt_of_cell? w _ hw104_3)).trans hw104_3)⟩ (fun hHeld => ?_)
                clear hK K
                refine norm_ (a' := ?_) ?_ ?_
                rotate_left
                ·
                 show Act.put _ (some 8) _ = _
                 simp only [Act.put, List.setIfInBounds_toArray, List.set_cons_zero, List.set_cons_succ, i64_w, i32_w]
                 rfl
                exact norm_ (by simp only [putAll, Act.put, List.setIfInBounds_toArray, List.set_cons_zero, List.set_cons_succ]) (hCont (gb105, gb106) _ ⟨hHeld, (bk_ BK101.out), (bk_ BK102.out), (bk_ BK105.out), (bk_ BK106.out), GW105.out, GE105.out, NB101_105.out, NB105_101.out, NB102_105.out, NB105_102.out, NB106_105.out, NB105_106.out, GW106.out, GE106.out, NB101_106.out, NB106_101.out, NB102_106.out, NB106_102.out, (bl4_ HB.out GE101.out GE102.out GE106.out GE105.out)⟩)
              rintro ⟨gb105, gb106⟩ w40 ⟨hS_, h0_, h1_, h2_, h3_, h4_, h5_, h6_, h7_, h8_, h9_, h10_, h11_, h12_, h13_, h14_, h15_, h16_, h17_, h18_⟩
              have n0_ : Aside0 (w40.heap[gb101]? = some (.cells #[.string a0_0, .slice (some ad103) l0_1.length c0_1, .bool a0_2, .slice A0_3 l0_3.length c0_3, .int .i64 a0_4] 41 (0, 0))) := ⟨h0_⟩
              have n1_ : Aside0 (w40.heap[gb102]? = some (.cells #[.string a1_0, .slice (some ad104) l1_1.length c1_1, .bool a1_2, .slice A1_3 l1_3.length c1_3, .int .i64 a1_4] 41 (0, 0))) := ⟨h1_⟩
              have n2_ : Aside0 (w40.heap[gb105]? = some (.cells #[.int .i64 0, .string (⟨#[]⟩ : ByteArray), .int .i64 0, .int .i64 0] 46 (0, 0))) := ⟨h2_⟩
              have n3_ : Aside0 (w40.heap[gb106]? = some (.cells #[.int .i64 0, .string (⟨#[]⟩ : ByteArray), .int .i64 0, .int .i64 0] 46 (0, 0))) := ⟨h3_⟩
              have n4_ : Aside0 (w.heap.size ≤ gb105) := ⟨h4_⟩
              have n5_ : Aside0 (w.heap.size ≤ gb105) := ⟨h5_⟩
              have n6_ : Aside0 (gb101 ≠ gb105) := ⟨h6_⟩
              have n7_ : Aside0 (gb105 ≠ gb101) := ⟨h7_⟩
              have n8_ : Aside0 (gb102 ≠ gb105) := ⟨h8_⟩
              have n9_ : Aside0 (gb105 ≠ gb102) := ⟨h9_⟩
              have n10_ : Aside0 (gb106 ≠ gb105) := ⟨h10_⟩
              have n11_ : Aside0 (gb105 ≠ gb106) := ⟨h11_⟩
              have n12_ : Aside0 (w.heap.size ≤ gb106) := ⟨h12_⟩
              have n13_ : Aside0 (w.heap.size ≤ gb106) := ⟨h13_⟩
              have n14_ : Aside0 (gb101 ≠ gb106) := ⟨h14_⟩
              have n15_ : Aside0 (gb106 ≠ gb101) := ⟨h15_⟩
              have n16_ : Aside0 (gb102 ≠ gb106) := ⟨h16_⟩
              have n17_ : Aside0 (gb106 ≠ gb102) := ⟨h17_⟩
              have n18_ : Aside0 (Below w.heap.size w w40) := ⟨h18_⟩
              clear BK101
              clear BK102
              clear HB
              clear h0_ h1_ h2_ h3_ h4_ h5_ h6_ h7_ h8_ h9_ h10_ h11_ h12_ h13_ h14_ h15_ h16_ h17_ h18_
              have BK101 := n0_
              have BK102 := n1_
              have BK105 := n2_
              have BK106 := n3_
              have GW105 := n4_
              have GE105 := n5_
              have NB101_105 := n6_
              have NB105_101 := n7_
              have NB102_105 := n8_
              have NB105_102 := n9_
              have NB106_105 := n10_
              have NB105_106 := n11_
              have GW106 := n12_
              have GE106 := n13_
              have NB101_106 := n14_
              have NB106_101 := n15_
              have NB102_106 := n16_
              have NB106_102 := n17_
              have HB := n18_
              clear n0_ n1_ n2_ n3_ n4_ n5_ n6_ n7_ n8_ n9_ n10_ n11_ n12_ n13_ n14_ n15_ n16_ n17_ n18_
              have hHeld : w40.cell? ⟨gb101, 0, none⟩ = some (.string a0_0) ∧ w40.cell? ⟨gb101, 1, none⟩ = some (.slice (some ad103) l0_1.length c0_1) ∧ w40.cell? ⟨gb101, 2, none⟩ = some (.bool a0_2) ∧ w40.cell? ⟨gb101, 3, none⟩ = some (.slice A0_3 l0_3.length c0_3) ∧ w40.cell? ⟨gb101, 4, none⟩ = some (.int .i64 a0_4) ∧ w40.cell? ⟨gb102, 0, none⟩ = some (.string a1_0) ∧ w40.cell? ⟨gb102, 1, none⟩ = some (.slice (some ad104) l1_1.length c1_1) ∧ w40.cell? ⟨gb102, 2, none⟩ = some (.bool a1_2) ∧ w40.cell? ⟨gb102, 3, none⟩ = some (.slice A1_3 l1_3.length c1_3) ∧ w40.cell? ⟨gb102, 4, none⟩ = some (.int .i64 a1_4) ∧ w40.cell? (ad103.add ((x7_2).toNat * 4)) = some (.int .i64 ((rd_T46 l0_1 x7_2).f0)) ∧ w40.cell? ⟨(ad103.add ((x7_2).toNat * 4)).block, (ad103.add ((x7_2).toNat * 4)).off + 1, none⟩ = some (.string ((rd_T46 l0_1 x7_2).f1)) ∧ w40.cell? ⟨(ad103.add ((x7_2).toNat * 4)).block, (ad103.add ((x7_2).toNat * 4)).off + 2, none⟩ = some (.int .i64 ((rd_T46 l0_1 x7_2).f2)) ∧ w40.cell? ⟨(ad103.add ((x7_2).toNat * 4)).block, (ad103.add ((x7_2).toNat * 4)).off + 3, none⟩ = some (.int .i64 ((rd_T46 l0_1 x7_2).f3)) ∧ w40.cell? (ad104.add ((x7_2).toNat * 4)) = some (.int .i64 ((rd_T46 l1_1 x7_2).f0)) ∧ w40.cell? ⟨(ad104.add ((x7_2).toNat * 4)).block, (ad104.add ((x7_2).toNat * 4)).off + 1, none⟩ = some (.string ((rd_T46 l1_1 x7_2).f1)) ∧ w40.cell? ⟨(ad104.add ((x7_2).toNat * 4)).block, (ad104.add ((x7_2).toNat * 4)).off + 2, none⟩ = some (.int .i64 ((rd_T46 l1_1 x7_2).f2)) ∧ w40.cell? ⟨(ad104.add ((x7_2).toNat * 4)).block, (ad104.add ((x7_2).toNat * 4)).off + 3, none⟩ = some (.int .i64 ((rd_T46 l1_1 x7_2).f3)) := hS_
              refine norm_ (a' := ?_) ?_ ?_
              rotate_left
              ·
               simp only [putAll, Act.put, List.setIfInBounds_toArray, List.set_cons_zero, List.set_cons_succ]
               rfl
              refine one_ (i := 12) (N := none) #[true, true, true, true, true, true, true, true, true, true, true, true, true, false] rfl rfl (one_of HT_.out (by kernel_rfl)) (by decide) (fun K hK => ?_)
              have hs41 : w40.cell? ⟨gb105, 0, none⟩ = some (.int .i64 0) := (blk_cell BK105.out 0).trans rfl
              have hfs41 := blk_frozen BK105.out 0
              have hns41_0 := NB101_105.out
              have hns41_1 := NB102_105.out
              have hns41_3 := NB106_105.out
              have hms41_0 := NB105_101.out
              have hms41_1 := NB105_102.out
              have hms41_3 := NB105_106.out
              have hs42 : w40.cell? ⟨gb105, 1, none⟩ = some (.string (⟨#[]⟩ : ByteArray)) := (blk_cell BK105.out 1).trans rfl
              have hfs42 := blk_frozen BK105.out 1
              have hns42_0 := NB101_105.out
              have hns42_1 := NB102_105.out
              have hns42_3 := NB106_105.out
              have hms42_0 := NB105_101.out
              have hms42_1 := NB105_102.out
              have hms42_3 := NB105_106.out
              have hs43 : w40.cell? ⟨gb105, 2, none⟩ = some (.int .i64 0) := (blk_cell BK105.out 2).trans rfl
              have hfs43 := blk_frozen BK105.out 2
              have hns43_0 := NB101_105.out
              have hns43_1 := NB102_105.out
              have hns43_3 := NB106_105.out
              have hms43_0 := NB105_101.out
              have hms43_1 := NB105_102.out
              have hms43_3 := NB105_106.out
              have hs44 : w40.cell? ⟨gb105, 3, none⟩ = some (.int .i64 0) := (blk_cell BK105.out 3).trans rfl
              have hfs44 := blk_frozen BK105.out 3
              have hns44_0 := NB101_105.out
              have hns44_1 := NB102_105.out
              have hns44_3 := NB106_105.out
              have hms44_0 := NB105_101.out
              have hms44_1 := NB105_102.out
              have hms44_3 := NB105_106.out
              refine skip_ (w1 := ?_) (by rfl) rfl ?_ ?_
              rotate_left
              ·
               go_simp
               rfl
              refine hK.out _ _ ⟨(cf4_ gb105 NB101_105.out hHeld.1), (cf4_ gb105 NB101_105.out hHeld.2.1), (cf4_ gb105 NB101_105.out hHeld.2.2.1), (cf4_ gb105 NB101_105.out hHeld.2.2.2.1), (cf4_ gb105 NB101_105.out hHeld.2.2.2.2.1), (cf4_ gb105 NB102_105.out hHeld.2.2.2.2.2.1), (cf4_ gb105 NB102_105.out hHeld.2.2.2.2.2.2.1), (cf4_ gb105 NB102_105.out hHeld.2.2.2.2.2.2.2.1), (cf4_ gb105 NB102_105.out hHeld.2.2.2.2.2.2.2.2.1), (cf4_ gb105 NB102_105.out hHeld.2.2.2.2.2.2.2.2.2.1), (cf4_ gb105 (fr_ hw103_0 GW105.out) hHeld.2.2.2.2.2.2.2.2.2.2.1), (cf4_ gb105 (fr_ hw103_1 GW105.out) hHeld.2.2.2.2.2.2.2.2.2.2.2.1), (cf4_ gb105 (fr_ hw103_2 GW105.out) hHeld.2.2.2.2.2.2.2.2.2.2.2.2.1), (cf4_ gb105 (fr_ hw103_3 GW105.out) hHeld.2.2.2.2.2.2.2.2.2.2.2.2.2.1), (cf4_ gb105 (fr_ hw104_0 GW105.out) hHeld.2.2.2.2.2.2.2.2.2.2.2.2.2.2.1), (cf4_ gb105 (fr_ hw104_1 GW105.out) hHeld.2.2.2.2.2.2.2.2.2.2.2.2.2.2.2.1), (cf4_ gb105 (fr_ hw104_2 GW105.out) hHeld.2.2.2.2.2.2.2.2.2.2.2.2.2.2.2.2.1), (cf4_ gb105 (fr_ hw104_3 GW105.out) hHeld.2.2.2.2.2.2.2.2.2.2.2.2.2.2.2.2.2)⟩ (fun hHeld => ?_)
              clear hK K
              refine one_ (i := 13) (N := none) #[true, true, true, true, true, true, true, true, true, true, true, true, true, true] rfl rfl (one_of HT_.out (by kernel_rfl)) (by decide) (fun K hK => ?_)
              have hs45 : w40.cell? ⟨gb106, 0, none⟩ = some (.int .i64 0) := (blk_cell BK106.out 0).trans rfl
              have hfs45 := blk_frozen BK106.out 0
              have hns45_0 := NB101_106.out
              have hns45_1 := NB102_106.out
              have hns45_2 := NB105_106.out
              have hms45_0 := NB106_101.out
              have hms45_1 := NB106_102.out
              have hms45_2 := NB106_105.out
              have hs46 : w40.cell? ⟨gb106, 1, none⟩ = some (.string (⟨#[]⟩ : ByteArray)) := (blk_cell BK106.out 1).trans rfl
              have hfs46 := blk_frozen BK106.out 1
              have hns46_0 := NB101_106.out
              have hns46_1 := NB102_106.out
              have hns46_2 := NB105_106.out
              have hms46_0 := NB106_101.out
              have hms46_1 := NB106_102.out
              have hms46_2 := NB106_105.out
              have hs47 : w40.cell? ⟨gb106, 2, none⟩ = some (.int .i64 0) := (blk_cell BK106.out 2).trans rfl
              have hfs47 := blk_frozen BK106.out 2
              have hns47_0 := NB101_106.out
              have hns47_1 := NB102_106.out
              have hns47_2 := NB105_106.out
              have hms47_0 := NB106_101.out
              have hms47_1 := NB106_102.out
              have hms47_2 := NB106_105.out
              have hs48 : w40.cell? ⟨gb106, 3, none⟩ = some (.int .i64 0) := (blk_cell BK106.out 3).trans rfl
              have hfs48 := blk_frozen BK106.out 3
              have hns48_0 := NB101_106.out
              have hns48_1 := NB102_106.out
              have hns48_2 := NB105_106.out
              have hms48_0 := NB106_101.out
              have hms48_1 := NB106_102.out
              have hms48_2 := NB106_105.out
              refine skip_ (w1 := ?_) (by rfl) rfl ?_ ?_
              rotate_left
              ·
               go_simp
               rfl
              refine hK.out _ _ ⟨(cf4_ gb106 NB101_106.out hHeld.1), (cf4_ gb106 NB101_106.out hHeld.2.1), (cf4_ gb106 NB101_106.out hHeld.2.2.1), (cf4_ gb106 NB101_106.out hHeld.2.2.2.1), (cf4_ gb106 NB101_106.out hHeld.2.2.2.2.1), (cf4_ gb106 NB102_106.out hHeld.2.2.2.2.2.1), (cf4_ gb106 NB102_106.out hHeld.2.2.2.2.2.2.1), (cf4_ gb106 NB102_106.out hHeld.2.2.2.2.2.2.2.1), (cf4_ gb106 NB102_106.out hHeld.2.2.2.2.2.2.2.2.1), (cf4_ gb106 NB102_106.out hHeld.2.2.2.2.2.2.2.2.2.1), (cf4_ gb106 (fr_ hw103_0 GW106.out) hHeld.2.2.2.2.2.2.2.2.2.2.1), (cf4_ gb106 (fr_ hw103_1 GW106.out) hHeld.2.2.2.2.2.2.2.2.2.2.2.1), (cf4_ gb106 (fr_ hw103_2 GW106.out) hHeld.2.2.2.2.2.2.2.2.2.2.2.2.1), (cf4_ gb106 (fr_ hw103_3 GW106.out) hHeld.2.2.2.2.2.2.2.2.2.2.2.2.2.1), (cf4_ gb106 (fr_ hw104_0 GW106.out) hHeld.2.2.2.2.2.2.2.2.2.2.2.2.2.2.1), (cf4_ gb106 (fr_ hw104_1 GW106.out) hHeld.2.2.2.2.2.2.2.2.2.2.2.2.2.2.2.1), (cf4_ gb106 (fr_ hw104_2 GW106.out) hHeld.2.2.2.2.2.2.2.2.2.2.2.2.2.2.2.2.1), (cf4_ gb106 (fr_ hw104_3 GW106.out) hHeld.2.2.2.2.2.2.2.2.2.2.2.2.2.2.2.2.2)⟩ (fun hHeld => ?_)
              clear hK K
              refine done_ (done_of HT_.out (by kernel_rfl)) ?_
              have hnb49 := NB105_101.out
              have hnc49 := NB101_105.out
              have hnb50 := NB105_102.out
              have hnc50 := NB102_105.out
              have hnb51 := NB105_106.out
              have hnc51 := NB106_105.out
              have hcz52_0 := cz_ (.int .i64 0) BK105.out 0
              have hcz52_1 := cz_ (.string (⟨#[]⟩ : ByteArray)) BK105.out 1
              have hcz52_2 := cz_ (.int .i64 0) BK105.out 2
              have hcz52_3 := cz_ (.int .i64 0) BK105.out 3
              have hfz52_0 := blk_frozen BK105.out 0
              have hfz52_1 := blk_frozen BK105.out 1
              have hfz52_2 := blk_frozen BK105.out 2
              have hfz52_3 := blk_frozen BK105.out 3
              have hnb53 := NB106_101.out
              have hnc53 := NB101_106.out
              have hnb54 := NB106_102.out
              have hnc54 := NB102_106.out
              have hcz55_0 := cz_ (.int .i64 0) BK106.out 0
              have hcz55_1 := cz_ (.string (⟨#[]⟩ : ByteArray)) BK106.out 1
              have hcz55_2 := cz_ (.int .i64 0) BK106.out 2
              have hcz55_3 := cz_ (.int .i64 0) BK106.out 3
              have hfz55_0 := blk_frozen BK106.out 0
              have hfz55_1 := blk_frozen BK106.out 1
              have hfz55_2 := blk_frozen BK106.out 2
              have hfz55_3 := blk_frozen BK106.out 3
              try go_wp2
              go_roundg k2
              case measure => have := HJ3.out; have := HK2.out; omega
              case rel => exact ⟨(wrap64 (x7_2 + 1)), sr_, H', ⟨by have := HJ3.out; have := HK2.out; omega⟩, ⟨by exact far4_ (far4_ (bk_ BK101.out) NB101_105.out) NB101_106.out⟩, ⟨by exact far4_ (far4_ (bk_ BK102.out) NB102_105.out) NB102_106.out⟩, ⟨bl4_ HB.out GE101.out GE102.out GE105.out GE106.out⟩⟩
             ·
              rw [if_neg c34] at H
              exact absurd H (by simp)
            ·
             replace c33 := Bool.eq_false_iff.mpr c33
             subst c33
             have H1 : (salchowref10_same.l0 QF k2 false (wrap64 (x7_2 + 1)) a0_0 l0_1 a0_2 l0_3 a0_4 a1_0 l1_1 a1_2 l1_3 a1_4) = some r := by rw [if_neg (show ¬ (false = true) by decide)] at H; exact H
             clear H
             have H := H1
             clear H1
             have H' := Aside0.mk H
             clear H
             have hnb56 := NB101_102.out
             have hnc56 := NB102_101.out
             have hcz57_0 := cz_ (.string a0_0) BK101.out 0
             have hcz57_1 := cz_ (.slice A0_1 l0_1.length c0_1) BK101.out 1
             have hcz57_2 := cz_ (.bool a0_2) BK101.out 2
             have hcz57_3 := cz_ (.slice A0_3 l0_3.length c0_3) BK101.out 3
             have hcz57_4 := cz_ (.int .i64 a0_4) BK101.out 4
             have hfz57_0 := blk_frozen BK101.out 0
             have hfz57_1 := blk_frozen BK101.out 1
             have hfz57_2 := blk_frozen BK101.out 2
             have hfz57_3 := blk_frozen BK101.out 3
             have hfz57_4 := blk_frozen BK101.out 4
             try go_wp2
             refine cut3_ (blk_drew BK101.out) (blk_drew BK102.out) (below_drew1 HB.out) ?_
             clear BK101 BK102 HB
             intro BK101 BK102 HB
             have p103 : 0 ≤ (x7_2 : Int) := dt_
             have q103 : x7_2 < (l0_1.length : Int) := dt_
             obtain ⟨ad103, e103, hx103_0, hx103_1, hx103_2, hx103_3⟩ := at_T46 HR0_1.out x7_2 p103 q103
             have hw103_3 := hx103_3
             have hw103_2 := hx103_2
             have hw103_1 := hx103_1
             have hw103_0 := hx103_0
             cases e103
             replace hx103_0 := pw_cell_below HB.out hx103_0
             replace hx103_1 := pw_cell_below HB.out hx103_1
             replace hx103_2 := pw_cell_below HB.out hx103_2
             replace hx103_3 := pw_cell_below HB.out hx103_3
             replace p103 := eq_true p103
             replace q103 := eq_true q103
             have p104 : 0 ≤ (x7_2 : Int) := dt_
             have q104 : x7_2 < (l1_1.length : Int) := dt_
             obtain ⟨ad104, e104, hx104_0, hx104_1, hx104_2, hx104_3⟩ := at_T46 HR1_1.out x7_2 p104 q104
             have hw104_3 := hx104_3
             have hw104_2 := hx104_2
             have hw104_1 := hx104_1
             have hw104_0 := hx104_0
             cases e104
             replace hx104_0 := pw_cell_below HB.out hx104_0
             replace hx104_1 := pw_cell_below HB.out hx104_1
             replace hx104_2 := pw_cell_below HB.out hx104_2
             replace hx104_3 := pw_cell_below HB.out hx104_3
             replace p104 := eq_true p104
             replace q104 := eq_true q104
             refine start_ (n := 14) (S := fun w' => w'.cell? ⟨gb101, 0, none⟩ = some (.string a0_0) ∧ w'.cell? ⟨gb101, 1, none⟩ = some (.slice (some ad103) l0_1.length c0_1) ∧ w'.cell? ⟨gb101, 2, none⟩ = some (.bool a0_2) ∧ w'.cell? ⟨gb101, 3, none⟩ = some (.slice A0_3 l0_3.length c0_3) ∧ w'.cell? ⟨gb101, 4, none⟩ = some (.int .i64 a0_4) ∧ w'.cell? ⟨gb102, 0, none⟩ = some (.string a1_0) ∧ w'.cell? ⟨gb102, 1, none⟩ = some (.slice (some ad104) l1_1.length c1_1) ∧ w'.cell? ⟨gb102, 2, none⟩ = some (.bool a1_2) ∧ w'.cell? ⟨gb102, 3, none⟩ = some (.slice A1_3 l1_3.length c1_3) ∧ w'.cell? ⟨gb102, 4, none⟩ = some (.int .i64 a1_4) ∧ w'.cell? (ad103.add ((x7_2).toNat * 4)) = some (.int .i64 ((rd_T46 l0_1 x7_2).f0)) ∧ w'.cell? ⟨(ad103.add ((x7_2).toNat * 4)).block, (ad103.add ((x7_2).toNat * 4)).off + 1, none⟩ = some (.string ((rd_T46 l0_1 x7_2).f1)) ∧ w'.cell? ⟨(ad103.add ((x7_2).toNat * 4)).block, (ad103.add ((x7_2).toNat * 4)).off + 2, none⟩ = some (.int .i64 ((rd_T46 l0_1 x7_2).f2)) ∧ w'.cell? ⟨(ad103.add ((x7_2).toNat * 4)).block, (ad103.add ((x7_2).toNat * 4)).off + 3, none⟩ = some (.int .i64 ((rd_T46 l0_1 x7_2).f3)) ∧ w'.cell? (ad104.add ((x7_2).toNat * 4)) = some (.int .i64 ((rd_T46 l1_1 x7_2).f0)) ∧ w'.cell? ⟨(ad104.add ((x7_2).toNat * 4)).block, (ad104.add ((x7_2).toNat * 4)).off + 1, none⟩ = some (.string ((rd_T46 l1_1 x7_2).f1)) ∧ w'.cell? ⟨(ad104.add ((x7_2).toNat * 4)).block, (ad104.add ((x7_2).toNat * 4)).off + 2, none⟩ = some (.int .i64 ((rd_T46 l1_1 x7_2).f2)) ∧ w'.cell? ⟨(ad104.add ((x7_2).toNat * 4)).block, (ad104.add ((x7_2).toNat * 4)).off + 3, none⟩ = some (.int .i64 ((rd_T46 l1_1 x7_2).f3))) (ds := []) #[false, false, false, false, false, false, false, false, false, false, false, false, false, false] (by kernel_rfl) rfl rfl ⟨(blk_cell BK101.out 0).trans rfl, (blk_cell BK101.out 1).trans rfl, (blk_cell BK101.out 2).trans rfl, (blk_cell BK101.out 3).trans rfl, (blk_cell BK101.out 4).trans rfl, (blk_cell BK102.out 0).trans rfl, (blk_cell BK102.out 1).trans rfl, (blk_cell BK102.out 2).trans rfl, (blk_cell BK102.out 3).trans rfl, (blk_cell BK102.out 4).trans rfl, ((HB.out.cell (World.block_lt_of_cell? w _ hw103_0)).trans hw103_0), ((HB.out.cell (World.block_lt_of_cell? w _ hw103_1)).trans hw103_1), ((HB.out.cell (World.block_lt_of_cell? w _ hw103_2)).trans hw103_2), ((HB.out.cell (World.block_lt_of_cell? w _ hw103_3)).trans hw103_3), ((HB.out.cell (World.block_lt_of_cell? w _ hw104_0)).trans hw104_0), ((HB.out.cell (World.block_lt_of_cell? w _ hw104_1)).trans hw104_1), ((HB.out.cell (World.block_lt_of_cell? w _ hw104_2)).trans hw104_2), ((HB.out.cell (World.block_lt_of_cell? w _ hw104_3)).trans hw104_3)⟩ (fun hHeld => ?_); refine with_tabW salchowref10_same.tab6 salchowref10_same.bits6 (fun HT_ HW_ => ?_)
             generalize wr.drew = w58 at BK101 BK102 HB hx103_0 hx103_1 hx103_2 hx103_3 hx104_0 hx104_1 hx104_2 hx104_3 hHeld ⊢
             refine pr_ (i := 0) (N := some 48) #[true, false, false, false, false, false, false, false, false, false, false, false, false, false] (any_of HT_.out (by kernel_rfl)) ?_
             refine pr_ (i := 2) (N := some 50) #[true, false, true, false, false, false, false, false, false, false, false, false, false, false] (any_of HT_.out (by kernel_rfl)) ?_
             refine pr_ (i := 5) (N := some 53) #[true, false, true, false, false, true, false, false, false, false, false, false, false, false] (any_of HT_.out (by kernel_rfl)) ?_
             refine pr_ (i := 7) (N := some 55) #[true, false, true, false, false, true, false, true, false, false, false, false, false, false] (any_of HT_.out (by kernel_rfl)) ?_
             refine take_ (i := 1) (N := some 49) (v := ?_) (a' := ?_) #[true, true, true, false, false, true, false, true, false, false, false, false, false, false] rfl rfl (take_ofW HT_.out HW_.out (by kernel_rfl)) (fun _ _ _ h => h) (Or.inl ⟨by rfl, ?_⟩) hHeld ?_ ?_
             rotate_left
             ·
              rintro w' ⟨s0, s1, s2, s3, s4, s5, s6, s7, s8, s9, s10, s11, s12, s13, s14, s15, s16, s17⟩
              go_simp
              with_reducible rfl
             rotate_left
             ·
              simp only [Act.put, List.setIfInBounds_toArray, List.set_cons_zero, List.set_cons_succ, i64_w, i32_w]
              rfl
             refine pr_ (i := 3) (N := some 51) #[true, true, true, true, false, true, false, true, false, false, false, false, false, false] (any_of HT_.out (by kernel_rfl)) ?_
             refine take_ (i := 4) (N := some 52) (v := ?_) (a' := ?_) #[true, true, true, true, true, true, false, true, false, false, false, false, false, false] rfl rfl (take_ofW HT_.out HW_.out (by kernel_rfl)) (fun _ _ _ h => h) (Or.inl ⟨by rfl, ?_⟩) hHeld ?_ ?_
             rotate_left
             ·
              rintro w' ⟨s0, s1, s2, s3, s4, s5, s6, s7, s8, s9, s10, s11, s12, s13, s14, s15, s16, s17⟩
              go_simp
              with_reducible rfl
             rotate_left
             ·
              simp only [Act.put, List.setIfInBounds_toArray, List.set_cons_zero, List.set_cons_succ, i64_w, i32_w]
              rfl
             refine take_ (i := 6) (N := some 54) (v := ?_) (a' := ?_) #[true, true, true, true, true, true, true, true, false, false, false, false, false, false] rfl rfl (take_ofW HT_.out HW_.out (by kernel_rfl)) (fun _ _ _ h => h) (Or.inl ⟨by rfl, ?_⟩) hHeld ?_ ?_
             rotate_left
             ·
              rintro w' ⟨s0, s1, s2, s3, s4, s5, s6, s7, s8, s9, s10, s11, s12, s13, s14, s15, s16, s17⟩
              go_simp
              with_reducible rfl
             rotate_left
             ·
              simp only [Act.put, List.setIfInBounds_toArray, List.set_cons_zero, List.set_cons_succ, i64_w, i32_w]
              rfl
             refine pr_ (i := 8) (N := some 56) #[true, true, true, true, true, true, true, true, true, false, false, false, false, false] (any_of HT_.out (by kernel_rfl)) ?_
             refine take_ (i := 9) (N := some 57) (v := ?_) (a' := ?_) #[true, true, true, true, true, true, true, true, true, true, false, false, false, false] rfl rfl (take_ofW HT_.out HW_.out (by kernel_rfl)) (fun _ _ _ h => h) (Or.inl ⟨by rfl, ?_⟩) hHeld ?_ ?_
             rotate_left
             ·
              rintro w' ⟨s0, s1, s2, s3, s4, s5, s6, s7, s8, s9, s10, s11, s12, s13, s14, s15, s16, s17⟩
              go_simp
              with_reducible rfl
             rotate_left
             ·
              simp only [Act.put, List.setIfInBounds_toArray, List.set_cons_zero, List.set_cons_succ, i64_w, i32_w]
              rfl
             refine join_ (σ := Nat × Nat) 2 #[true, true, true, true, true, true, true, true, true, true, true, true, false, false] (fun s_ => [(8, .pointer (some ⟨s_.1, 0, none⟩)), (9, .pointer (some ⟨s_.2, 0, none⟩))]) (fun s_ w' => (w'.cell? ⟨gb101, 0, none⟩ = some (.string a0_0) ∧ w'.cell? ⟨gb101, 1, none⟩ = some (.slice (some ad103) l0_1.length c0_1) ∧ w'.cell? ⟨gb101, 2, none⟩ = some (.bool a0_2) ∧ w'.cell? ⟨gb101, 3, none⟩ = some (.slice A0_3 l0_3.length c0_3) ∧ w'.cell? ⟨gb101, 4, none⟩ = some (.int .i64 a0_4) ∧ w'.cell? ⟨gb102, 0, none⟩ = some (.string a1_0) ∧ w'.cell? ⟨gb102, 1, none⟩ = some (.slice (some ad104) l1_1.length c1_1) ∧ w'.cell? ⟨gb102, 2, none⟩ = some (.bool a1_2) ∧ w'.cell? ⟨gb102, 3, none⟩ = some (.slice A1_3 l1_3.length c1_3) ∧ w'.cell? ⟨gb102, 4, none⟩ = some (.int .i64 a1_4) ∧ w'.cell? (ad103.add ((x7_2).toNat * 4)) = some (.int .i64 ((rd_T46 l0_1 x7_2).f0)) ∧ w'.cell? ⟨(ad103.add ((x7_2).toNat * 4)).block, (ad103.add ((x7_2).toNat * 4)).off + 1, none⟩ = some (.string ((rd_T46 l0_1 x7_2).f1)) ∧ w'.cell? ⟨(ad103.add ((x7_2).toNat * 4)).block, (ad103.add ((x7_2).toNat * 4)).off + 2, none⟩ = some (.int .i64 ((rd_T46 l0_1 x7_2).f2)) ∧ w'.cell? ⟨(ad103.add ((x7_2).toNat * 4)).block, (ad103.add ((x7_2).toNat * 4)).off + 3, none⟩ = some (.int .i64 ((rd_T46 l0_1 x7_2).f3)) ∧ w'.cell? (ad104.add ((x7_2).toNat * 4)) = some (.int .i64 ((rd_T46 l1_1 x7_2).f0)) ∧ w'.cell? ⟨(ad104.add ((x7_2).toNat * 4)).block, (ad104.add ((x7_2).toNat * 4)).off + 1, none⟩ = some (.string ((rd_T46 l1_1 x7_2).f1)) ∧ w'.cell? ⟨(ad104.add ((x7_2).toNat * 4)).block, (ad104.add ((x7_2).toNat * 4)).off + 2, none⟩ = some (.int .i64 ((rd_T46 l1_1 x7_2).f2)) ∧ w'.cell? ⟨(ad104.add ((x7_2).toNat * 4)).block, (ad104.add ((x7_2).toNat * 4)).off + 3, none⟩ = some (.int .i64 ((rd_T46 l1_1 x7_2).f3))) ∧ (w'.heap[gb101]? = some (.cells #[.string a0_0, .slice (some ad103) l0_1.length c0_1, .bool a0_2, .slice A0_3 l0_3.length c0_3, .int .i64 a0_4] 41 (0, 0))) ∧ (w'.heap[gb102]? = some (.cells #[.string a1_0, .slice (some ad104) l1_1.length c1_1, .bool a1_2, .slice A1_3 l1_3.length c1_3, .int .i64 a1_4] 41 (0, 0))) ∧ (w'.heap[s_.1]? = some (.cells #[.int .i64 0, .string (⟨#[]⟩ : ByteArray), .int .i64 0, .int .i64 0] 46 (0, 0))) ∧ (w'.heap[s_.2]? = some (.cells #[.int .i64 0, .string (⟨#[]⟩ : ByteArray), .int .i64 0, .int .i64 0] 46 (0, 0))) ∧ (w.heap.size ≤ s_.1) ∧ (w.heap.size ≤ s_.1) ∧ (gb101 ≠ s_.1) ∧ (s_.1 ≠ gb101) ∧ (gb102 ≠ s_.1) ∧ (s_.1 ≠ gb102) ∧ (s_.2 ≠ s_.1) ∧ (s_.1 ≠ s_.2) ∧ (w.heap.size ≤ s_.2) ∧ (w.heap.size ≤ s_.2) ∧ (gb101 ≠ s_.2) ∧ (s_.2 ≠ gb101) ∧ (gb102 ≠ s_.2) ∧ (s_.2 ≠ gb102) ∧ (Below w.heap.size w w')) ?_ ?_
             rotate_left
             ·
              intro hCont
              refine two_ (i := 10) (j := 11) (Ni := some 8) (Nj := some 9) #[true, true, true, true, true, true, true, true, true, true, true, false, false, false] #[true, true, true, true, true, true, true, true, true, true, false, true, false, false] rfl rfl rfl rfl (two_of HT_.out (by kernel_rfl)) (by decide) (by decide) (fun K hK => ?_) (fun K hK => ?_)
              ·
               skip
               refine box_step ?hg (N := 8) ?hd (cs := #[.int .i64 0, .string (⟨#[]⟩ : ByteArray), .int .i64 0, .int .i64 0]) (t := 46) ?hr ?_; (case hd => rfl); (case hg => rfl); (case hr => first | (go_simp; done) | (go_simp; rfl))
               intro gb105 hg w59 hbox hb
               refine cut10_ (bb_ BK101.out hb) (bb_ BK102.out hb) (below_step (bl2_ HB.out GE101.out GE102.out) hb) (hbox) (bz_ (w := w) hg (bl2_ HB.out GE101.out GE102.out)) (bz_ (w := w) hg (bl2_ HB.out GE101.out GE102.out)) (nl_ hg BK101.out) (ng_ hg BK101.out) (nl_ hg BK102.out) (ng_ hg BK102.out) ?_
               clear BK101 BK102 HB
               intro BK101 BK102 HB BK105 GW105 GE105 NB101_105 NB105_101 NB102_105 NB105_102
               clear hb hbox hg
               refine hK.out _ _ ⟨(blk_cell BK101.out 0).trans rfl, (blk_cell BK101.out 1).trans rfl, (blk_cell BK101.out 2).trans rfl, (blk_cell BK101.out 3).trans rfl, (blk_cell BK101.out 4).trans rfl, (blk_cell BK102.out 0).trans rfl, (blk_cell BK102.out 1).trans rfl, (blk_cell BK102.out 2).trans rfl, (blk_cell BK102.out 3).trans rfl, (blk_cell BK102.out 4).trans rfl, ((HB.out.cell (World.block_lt_of_cell? w _ hw103_0)).trans hw103_0), ((HB.out.cell (World.block_lt_of_cell? w _ hw103_1)).trans hw103_1), ((HB.out.cell (World.block_lt_of_cell? w _ hw103_2)).trans hw103_2), ((HB.out.cell (World.block_lt_of_cell? w _ hw103_3)).trans hw103_3), ((HB.out.cell (World.block_lt_of_cell? w _ hw104_0)).trans hw104_0), ((HB.out.cell (World.block_lt_of_cell? w _ hw104_1)).trans hw104_1), ((HB.out.cell (World.block_lt_of_cell? w _ hw104_2)).trans hw104_2), ((HB.out.cell (World.block_lt_of_cell? w _ hw104_3)).trans hw104_3)⟩ (fun hHeld => ?_)
               clear hK K
               refine norm_ (a' := ?_) ?_ ?_
               rotate_left
               ·
                show Act.put _ (some 8) _ = _
                simp only [Act.put, List.setIfInBounds_toArray, List.set_cons_zero, List.set_cons_succ, i64_w, i32_w]
                rfl
               refine one_ (i := 11) (N := some 9) #[true, true, true, true, true, true, true, true, true, true, true, true, false, false] rfl rfl (one_of HT_.out (by kernel_rfl)) (by decide) (fun K hK => ?_)
               refine box_step ?hg (N := 9) ?hd (cs := #[.int .i64 0, .string (⟨#[]⟩ : ByteArray), .int .i64 0, .int .i64 0]) (t := 46) ?hr ?_; (case hd => rfl); (case hg => rfl); (case hr => first | (go_simp; done) | (go_simp; rfl))
               intro gb106 hg w60 hbox hb
               refine cut13_ (bb_ BK101.out hb) (bb_ BK102.out hb) (bb_ BK105.out hb) (below_step (bl3_ HB.out GE101.out GE102.out GE105.out) hb) (hbox) (bz_ (w := w) hg (bl3_ HB.out GE101.out GE102.out GE105.out)) (bz_ (w := w) hg (bl3_ HB.out GE101.out GE102.out GE105.out)) (nl_ hg BK101.out) (ng_ hg BK101.out) (nl_ hg BK102.out) (ng_ hg BK102.out) (nl_ hg BK105.out) (ng_ hg BK105.out) ?_
               clear BK101 BK102 BK105 HB
               intro BK101 BK102 BK105 HB BK106 GW106 GE106 NB101_106 NB106_101 NB102_106 NB106_102 NB105_106 NB106_105
               clear hb hbox hg
               refine hK.out _ _ ⟨(blk_cell BK101.out 0).trans rfl, (blk_cell BK101.out 1).trans rfl, (blk_cell BK101.out 2).trans rfl, (blk_cell BK101.out 3).trans rfl, (blk_cell BK101.out 4).trans rfl, (blk_cell BK102.out 0).trans rfl, (blk_cell BK102.out 1).trans rfl, (blk_cell BK102.out 2).trans rfl, (blk_cell BK102.out 3).trans rfl, (blk_cell BK102.out 4).trans rfl, ((HB.out.cell (World.block_lt_of_cell? w _ hw103_0)).trans hw103_0), ((HB.out.cell (World.block_lt_of_cell? w _ hw103_1)).trans hw103_1), ((HB.out.cell (World.block_lt_of_cell? w _ hw103_2)).trans hw103_2), ((HB.out.cell (World.block_lt_of_cell? w _ hw103_3)).trans hw103_3), ((HB.out.cell (World.block_lt_of_cell? w _ hw104_0)).trans hw104_0), ((HB.out.cell (World.block_lt_of_cell? w _ hw104_1)).trans hw104_1), ((HB.out.cell (World.block_lt_of_cell? w _ hw104_2)).trans hw104_2), ((HB.out.cell (World.block_lt_of_cell? w _ hw104_3)).trans hw104_3)⟩ (fun hHeld => ?_)
               clear hK K
               refine norm_ (a' := ?_) ?_ ?_
               rotate_left
               ·
                show Act.put _ (some 9) _ = _
                simp only [Act.put, List.setIfInBounds_toArray, List.set_cons_zero, List.set_cons_succ, i64_w, i32_w]
                rfl
               exact norm_ (by simp only [putAll, Act.put, List.setIfInBounds_toArray, List.set_cons_zero, List.set_cons_succ]) (hCont (gb105, gb106) _ ⟨hHeld, (bk_ BK101.out), (bk_ BK102.out), (bk_ BK105.out), (bk_ BK106.out), GW105.out, GE105.out, NB101_105.out, NB105_101.out, NB102_105.out, NB105_102.out, NB106_105.out, NB105_106.out, GW106.out, GE106.out, NB101_106.out, NB106_101.out, NB102_106.out, NB106_102.out, (bl4_ HB.out GE101.out GE102.out GE105.out GE106.out)⟩)
              ·
               skip
               refine box_step ?hg (N := 9) ?hd (cs := #[.int .i64 0, .string (⟨#[]⟩ : ByteArray), .int .i64 0, .int .i64 0]) (t := 46) ?hr ?_; (case hd => rfl); (case hg => rfl); (case hr => first | (go_simp; done) | (go_simp; rfl))
               intro gb106 hg w59 hbox hb
               refine cut10_ (bb_ BK101.out hb) (bb_ BK102.out hb) (below_step (bl2_ HB.out GE101.out GE102.out) hb) (hbox) (bz_ (w := w) hg (bl2_ HB.out GE101.out GE102.out)) (bz_ (w := w) hg (bl2_ HB.out GE101.out GE102.out)) (nl_ hg BK101.out) (ng_ hg BK101.out) (nl_ hg BK102.out) (ng_ hg BK102.out) ?_
               clear BK101 BK102 HB
               intro BK101 BK102 HB BK106 GW106 GE106 NB101_106 NB106_101 NB102_106 NB106_102
               clear hb hbox hg
               refine hK.out _ _ ⟨(blk_cell BK101.out 0).trans rfl, (blk_cell BK101.out 1).trans rfl, (blk_cell BK101.out 2).trans rfl, (blk_cell BK101.out 3).trans rfl, (blk_cell BK101.out 4).trans rfl, (blk_cell BK102.out 0).trans rfl, (blk_cell BK102.out 1).trans rfl, (blk_cell BK102.out 2).trans rfl, (blk_cell BK102.out 3).trans rfl, (blk_cell BK102.out 4).trans rfl, ((HB.out.cell (World.block_lt_of_cell? w _ hw103_0)).trans hw103_0), ((HB.out.cell (World.block_lt_of_cell? w _ hw103_1)).trans hw103_1), ((HB.out.cell (World.block_lt_of_cell? w _ hw103_2)).trans hw103_2), ((HB.out.cell (World.block_lt_of_cell? w _ hw103_3)).trans hw103_3), ((HB.out.cell (World.block_lt_of_cell? w _ hw104_0)).trans hw104_0), ((HB.out.cell (World.block_lt_of_cell? w _ hw104_1)).trans hw104_1), ((HB.out.cell (World.block_lt_of_cell? w _ hw104_2)).trans hw104_2), ((HB.out.cell (World.block_lt_of_cell? w _ hw104_3)).trans hw104_3)⟩ (fun hHeld => ?_)
               clear hK K
               refine norm_ (a' := ?_) ?_ ?_
               rotate_left
               ·
                show Act.put _ (some 9) _ = _
                simp only [Act.put, List.setIfInBounds_toArray, List.set_cons_zero, List.set_cons_succ, i64_w, i32_w]
                rfl
               refine one_ (i := 10) (N := some 8) #[true, true, true, true, true, true, true, true, true, true, true, true, false, false] rfl rfl (one_of HT_.out (by kernel_rfl)) (by decide) (fun K hK => ?_)
               refine box_step ?hg (N := 8) ?hd (cs := #[.int .i64 0, .string (⟨#[]⟩ : ByteArray), .int .i64 0, .int .i64 0]) (t := 46) ?hr ?_; (case hd => rfl); (case hg => rfl); (case hr => first | (go_simp; done) | (go_simp; rfl))
               intro gb105 hg w60 hbox hb
               refine cut13_ (bb_ BK101.out hb) (bb_ BK102.out hb) (bb_ BK106.out hb) (below_step (bl3_ HB.out GE101.out GE102.out GE106.out) hb) (hbox) (bz_ (w := w) hg (bl3_ HB.out GE101.out GE102.out GE106.out)) (bz_ (w := w) hg (bl3_ HB.out GE101.out GE102.out GE106.out)) (nl_ hg BK101.out) (ng_ hg BK101.out) (nl_ hg BK102.out) (ng_ hg BK102.out) (nl_ hg BK106.out) (ng_ hg BK106.out) ?_
               clear BK101 BK102 BK106 HB
               intro BK101 BK102 BK106 HB BK105 GW105 GE105 NB101_105 NB105_101 NB102_105 NB105_102 NB106_105 NB105_106
               clear hb hbox hg
               refine hK.out _ _ ⟨(blk_cell BK101.out 0).trans rfl, (blk_cell BK101.out 1).trans rfl, (blk_cell BK101.out 2).trans rfl, (blk_cell BK101.out 3).trans rfl, (blk_cell BK101.out 4).trans rfl, (blk_cell BK102.out 0).trans rfl, (blk_cell BK102.out 1).trans rfl, (blk_cell BK102.out 2).trans rfl, (blk_cell BK102.out 3).trans rfl, (blk_cell BK102.out 4).trans rfl, ((HB.out.cell (World.block_lt_of_cell? w _ hw103_0)).trans hw103_0), ((HB.out.cell (World.block_lt_of_cell? w _ hw103_1)).trans hw103_1), ((HB.out.cell (World.block_lt_of_cell? w _ hw103_2)).trans hw103_2), ((HB.out.cell (World.block_lt_of_cell? w _ hw103_3)).trans hw103_3), ((HB.out.cell (World.block_lt_of_cell? w _ hw104_0)).trans hw104_0), ((HB.out.cell (World.block_lt_of_cell? w _ hw104_1)).trans hw104_1), ((HB.out.cell (World.block_lt_of_cell? w _ hw104_2)).trans hw104_2), ((HB.out.cell (World.block_lt_of_cell? w _ hw104_3)).trans hw104_3)⟩ (fun hHeld => ?_)
               clear hK K
               refine norm_ (a' := ?_) ?_ ?_
               rotate_left
               ·
                show Act.put _ (some 8) _ = _
                simp only [Act.put, List.setIfInBounds_toArray, List.set_cons_zero, List.set_cons_succ, i64_w, i32_w]
                rfl
               exact norm_ (by simp only [putAll, Act.put, List.setIfInBounds_toArray, List.set_cons_zero, List.set_cons_succ]) (hCont (gb105, gb106) _ ⟨hHeld, (bk_ BK101.out), (bk_ BK102.out), (bk_ BK105.out), (bk_ BK106.out), GW105.out, GE105.out, NB101_105.out, NB105_101.out, NB102_105.out, NB105_102.out, NB106_105.out, NB105_106.out, GW106.out, GE106.out, NB101_106.out, NB106_101.out, NB102_106.out, NB106_102.out, (bl4_ HB.out GE101.out GE102.out GE106.out GE105.out)⟩)
             rintro ⟨gb105, gb106⟩ w61 ⟨hS_, h0_, h1_, h2_, h3_, h4_, h5_, h6_, h7_, h8_, h9_, h10_, h11_, h12_, h13_, h14_, h15_, h16_, h17_, h18_⟩
             have n0_ : Aside0 (w61.heap[gb101]? = some (.cells #[.string a0_0, .slice (some ad103) l0_1.length c0_1, .bool a0_2, .slice A0_3 l0_3.length c0_3, .int .i64 a0_4] 41 (0, 0))) := ⟨h0_⟩
             have n1_ : Aside0 (w61.heap[gb102]? = some (.cells #[.string a1_0, .slice (some ad104) l1_1.length c1_1, .bool a1_2, .slice A1_3 l1_3.length c1_3, .int .i64 a1_4] 41 (0, 0))) := ⟨h1_⟩
             have n2_ : Aside0 (w61.heap[gb105]? = some (.cells #[.int .i64 0, .string (⟨#[]⟩ : ByteArray), .int .i64 0, .int .i64 0] 46 (0, 0))) := ⟨h2_⟩
             have n3_ : Aside0 (w61.heap[gb106]? = some (.cells #[.int .i64 0, .string (⟨#[]⟩ : ByteArray), .int .i64 0, .int .i64 0] 46 (0, 0))) := ⟨h3_⟩
             have n4_ : Aside0 (w.heap.size ≤ gb105) := ⟨h4_⟩
             have n5_ : Aside0 (w.heap.size ≤ gb105) := ⟨h5_⟩
             have n6_ : Aside0 (gb101 ≠ gb105) := ⟨h6_⟩
             have n7_ : Aside0 (gb105 ≠ gb101) := ⟨h7_⟩
             have n8_ : Aside0 (gb102 ≠ gb105) := ⟨h8_⟩
             have n9_ : Aside0 (gb105 ≠ gb102) := ⟨h9_⟩
             have n10_ : Aside0 (gb106 ≠ gb105) := ⟨h10_⟩
             have n11_ : Aside0 (gb105 ≠ gb106) := ⟨h11_⟩
             have n12_ : Aside0 (w.heap.size ≤ gb106) := ⟨h12_⟩
             have n13_ : Aside0 (w.heap.size ≤ gb106) := ⟨h13_⟩
             have n14_ : Aside0 (gb101 ≠ gb106) := ⟨h14_⟩
             have n15_ : Aside0 (gb106 ≠ gb101) := ⟨h15_⟩
             have n16_ : Aside0 (gb102 ≠ gb106) := ⟨h16_⟩
             have n17_ : Aside0 (gb106 ≠ gb102) := ⟨h17_⟩
             have n18_ : Aside0 (Below w.heap.size w w61) := ⟨h18_⟩
             clear BK101
             clear BK102
             clear HB
             clear h0_ h1_ h2_ h3_ h4_ h5_ h6_ h7_ h8_ h9_ h10_ h11_ h12_ h13_ h14_ h15_ h16_ h17_ h18_
             have BK101 := n0_
             have BK102 := n1_
             have BK105 := n2_
             have BK106 := n3_
             have GW105 := n4_
             have GE105 := n5_
             have NB101_105 := n6_
             have NB105_101 := n7_
             have NB102_105 := n8_
             have NB105_102 := n9_
             have NB106_105 := n10_
             have NB105_106 := n11_
             have GW106 := n12_
             have GE106 := n13_
             have NB101_106 := n14_
             have NB106_101 := n15_
             have NB102_106 := n16_
             have NB106_102 := n17_
             have HB := n18_
             clear n0_ n1_ n2_ n3_ n4_ n5_ n6_ n7_ n8_ n9_ n10_ n11_ n12_ n13_ n14_ n15_ n16_ n17_ n18_
             have hHeld : w61.cell? ⟨gb101, 0, none⟩ = some (.string a0_0) ∧ w61.cell? ⟨gb101, 1, none⟩ = some (.slice (some ad103) l0_1.length c0_1) ∧ w61.cell? ⟨gb101, 2, none⟩ = some (.bool a0_2) ∧ w61.cell? ⟨gb101, 3, none⟩ = some (.slice A0_3 l0_3.length c0_3) ∧ w61.cell? ⟨gb101, 4, none⟩ = some (.int .i64 a0_4) ∧ w61.cell? ⟨gb102, 0, none⟩ = some (.string a1_0) ∧ w61.cell? ⟨gb102, 1, none⟩ = some (.slice (some ad104) l1_1.length c1_1) ∧ w61.cell? ⟨gb102, 2, none⟩ = some (.bool a1_2) ∧ w61.cell? ⟨gb102, 3, none⟩ = some (.slice A1_3 l1_3.length c1_3) ∧ w61.cell? ⟨gb102, 4, none⟩ = some (.int .i64 a1_4) ∧ w61.cell? (ad103.add ((x7_2).toNat * 4)) = some (.int .i64 ((rd_T46 l0_1 x7_2).f0)) ∧ w61.cell? ⟨(ad103.add ((x7_2).toNat * 4)).block, (ad103.add ((x7_2).toNat * 4)).off + 1, none⟩ = some (.string ((rd_T46 l0_1 x7_2).f1)) ∧ w61.cell? ⟨(ad103.add ((x7_2).toNat * 4)).block, (ad103.add ((x7_2).toNat * 4)).off + 2, none⟩ = some (.int .i64 ((rd_T46 l0_1 x7_2).f2)) ∧ w61.cell? ⟨(ad103.add ((x7_2).toNat * 4)).block, (ad103.add ((x7_2).toNat * 4)).off + 3, none⟩ = some (.int .i64 ((rd_T46 l0_1 x7_2).f3)) ∧ w61.cell? (ad104.add ((x7_2).toNat * 4)) = some (.int .i64 ((rd_T46 l1_1 x7_2).f0)) ∧ w61.cell? ⟨(ad104.add ((x7_2).toNat * 4)).block, (ad104.add ((x7_2).toNat * 4)).off + 1, none⟩ = some (.string ((rd_T46 l1_1 x7_2).f1)) ∧ w61.cell? ⟨(ad104.add ((x7_2).toNat * 4)).block, (ad104.add ((x7_2).toNat * 4)).off + 2, none⟩ = some (.int .i64 ((rd_T46 l1_1 x7_2).f2)) ∧ w61.cell? ⟨(ad104.add ((x7_2).toNat * 4)).block, (ad104.add ((x7_2).toNat * 4)).off + 3, none⟩ = some (.int .i64 ((rd_T46 l1_1 x7_2).f3)) := hS_
             refine norm_ (a' := ?_) ?_ ?_
             rotate_left
             ·
              simp only [putAll, Act.put, List.setIfInBounds_toArray, List.set_cons_zero, List.set_cons_succ]
              rfl
             refine one_ (i := 12) (N := none) #[true, true, true, true, true, true, true, true, true, true, true, true, true, false] rfl rfl (one_of HT_.out (by kernel_rfl)) (by decide) (fun K hK => ?_)
             have hs62 : w61.cell? ⟨gb105, 0, none⟩ = some (.int .i64 0) := (blk_cell BK105.out 0).trans rfl
             have hfs62 := blk_frozen BK105.out 0
             have hns62_0 := NB101_105.out
             have hns62_1 := NB102_105.out
             have hns62_3 := NB106_105.out
             have hms62_0 := NB105_101.out
             have hms62_1 := NB105_102.out
             have hms62_3 := NB105_106.out
             have hs63 : w61.cell? ⟨gb105, 1, none⟩ = some (.string (⟨#[]⟩ : ByteArray)) := (blk_cell BK105.out 1).trans rfl
             have hfs63 := blk_frozen BK105.out 1
             have hns63_0 := NB101_105.out
             have hns63_1 := NB102_105.out
             have hns63_3 := NB106_105.out
             have hms63_0 := NB105_101.out
             have hms63_1 := NB105_102.out
             have hms63_3 := NB105_106.out
             have hs64 : w61.cell? ⟨gb105, 2, none⟩ = some (.int .i64 0) := (blk_cell BK105.out 2).trans rfl
             have hfs64 := blk_frozen BK105.out 2
             have hns64_0 := NB101_105.out
             have hns64_1 := NB102_105.out
             have hns64_3 := NB106_105.out
             have hms64_0 := NB105_101.out
             have hms64_1 := NB105_102.out
             have hms64_3 := NB105_106.out
             have hs65 : w61.cell? ⟨gb105, 3, none⟩ = some (.int .i64 0) := (blk_cell BK105.out 3).trans rfl
             have hfs65 := blk_frozen BK105.out 3
             have hns65_0 := NB101_105.out
             have hns65_1 := NB102_105.out
             have hns65_3 := NB106_105.out
             have hms65_0 := NB105_101.out
             have hms65_1 := NB105_102.out
             have hms65_3 := NB105_106.out
             refine skip_ (w1 := ?_) (by rfl) rfl ?_ ?_
             rotate_left
             ·
              go_simp
              rfl
             refine hK.out _ _ ⟨(cf4_ gb105 NB101_105.out hHeld.1), (cf4_ gb105 NB101_105.out hHeld.2.1), (cf4_ gb105 NB101_105.out hHeld.2.2.1), (cf4_ gb105 NB101_105.out hHeld.2.2.2.1), (cf4_ gb105 NB101_105.out hHeld.2.2.2.2.1), (cf4_ gb105 NB102_105.out hHeld.2.2.2.2.2.1), (cf4_ gb105 NB102_105.out hHeld.2.2.2.2.2.2.1), (cf4_ gb105 NB102_105.out hHeld.2.2.2.2.2.2.2.1), (cf4_ gb105 NB102_105.out hHeld.2.2.2.2.2.2.2.2.1), (cf4_ gb105 NB102_105.out hHeld.2.2.2.2.2.2.2.2.2.1), (cf4_ gb105 (fr_ hw103_0 GW105.out) hHeld.2.2.2.2.2.2.2.2.2.2.1), (cf4_ gb105 (fr_ hw103_1 GW105.out) hHeld.2.2.2.2.2.2.2.2.2.2.2.1), (cf4_ gb105 (fr_ hw103_2 GW105.out) hHeld.2.2.2.2.2.2.2.2.2.2.2.2.1), (cf4_ gb105 (fr_ hw103_3 GW105.out) hHeld.2.2.2.2.2.2.2.2.2.2.2.2.2.1), (cf4_ gb105 (fr_ hw104_0 GW105.out) hHeld.2.2.2.2.2.2.2.2.2.2.2.2.2.2.1), (cf4_ gb105 (fr_ hw104_1 GW105.out) hHeld.2.2.2.2.2.2.2.2.2.2.2.2.2.2.2.1), (cf4_ gb105 (fr_ hw104_2 GW105.out) hHeld.2.2.2.2.2.2.2.2.2.2.2.2.2.2.2.2.1), (cf4_ gb105 (fr_ hw104_3 GW105.out) hHeld.2.2.2.2.2.2.2.2.2.2.2.2.2.2.2.2.2)⟩ (fun hHeld => ?_)
             clear hK K
             refine one_ (i := 13) (N := none) #[true, true, true, true, true, true, true, true, true, true, true, true, true, true] rfl rfl (one_of HT_.out (by kernel_rfl)) (by decide) (fun K hK => ?_)
             have hs66 : w61.cell? ⟨gb106, 0, none⟩ = some (.int .i64 0) := (blk_cell BK106.out 0).trans rfl
             have hfs66 := blk_frozen BK106.out 0
             have hns66_0 := NB101_106.out
             have hns66_1 := NB102_106.out
             have hns66_2 := NB105_106.out
             have hms66_0 := NB106_101.out
             have hms66_1 := NB106_102.out
             have hms66_2 := NB106_105.out
             have hs67 : w61.cell? ⟨gb106, 1, none⟩ = some (.string (⟨#[]⟩ : ByteArray)) := (blk_cell BK106.out 1).trans rfl
             have hfs67 := blk_frozen BK106.out 1
             have hns67_0 := NB101_106.out
             have hns67_1 := NB102_106.out
             have hns67_2 := NB105_106.out
             have hms67_0 := NB106_101.out
             have hms67_1 := NB106_102.out
             have hms67_2 := NB106_105.out
             have hs68 : w61.cell? ⟨gb106, 2, none⟩ = some (.int .i64 0) := (blk_cell BK106.out 2).trans rfl
             have hfs68 := blk_frozen BK106.out 2
             have hns68_0 := NB101_106.out
             have hns68_1 := NB102_106.out
             have hns68_2 := NB105_106.out
             have hms68_0 := NB106_101.out
             have hms68_1 := NB106_102.out
             have hms68_2 := NB106_105.out
             have hs69 : w61.cell? ⟨gb106, 3, none⟩ = some (.int .i64 0) := (blk_cell BK106.out 3).trans rfl
             have hfs69 := blk_frozen BK106.out 3
             have hns69_0 := NB101_106.out
             have hns69_1 := NB102_106.out
             have hns69_2 := NB105_106.out
             have hms69_0 := NB106_101.out
             have hms69_1 := NB106_102.out
             have hms69_2 := NB106_105.out
             refine skip_ (w1 := ?_) (by rfl) rfl ?_ ?_
             rotate_left
             ·
              go_simp
              rfl
             refine hK.out _ _ ⟨(cf4_ gb106 NB101_106.out hHeld.1), (cf4_ gb106 NB101_106.out hHeld.2.1), (cf4_ gb106 NB101_106.out hHeld.2.2.1), (cf4_ gb106 NB101_106.out hHeld.2.2.2.1), (cf4_ gb106 NB101_106.out hHeld.2.2.2.2.1), (cf4_ gb106 NB102_106.out hHeld.2.2.2.2.2.1), (cf4_ gb106 NB102_106.out hHeld.2.2.2.2.2.2.1), (cf4_ gb106 NB102_106.out hHeld.2.2.2.2.2.2.2.1), (cf4_ gb106 NB102_106.out hHeld.2.2.2.2.2.2.2.2.1), (cf4_ gb106 NB102_106.out hHeld.2.2.2.2.2.2.2.2.2.1), (cf4_ gb106 (fr_ hw103_0 GW106.out) hHeld.2.2.2.2.2.2.2.2.2.2.1), (cf4_ gb106 (fr_ hw103_1 GW106.out) hHeld.2.2.2.2.2.2.2.2.2.2.2.1), (cf4_ gb106 (fr_ hw103_2 GW106.out) hHeld.2.2.2.2.2.2.2.2.2.2.2.2.1), (cf4_ gb106 (fr_ hw103_3 GW106.out) hHeld.2.2.2.2.2.2.2.2.2.2.2.2.2.1), (cf4_ gb106 (fr_ hw104_0 GW106.out) hHeld.2.2.2.2.2.2.2.2.2.2.2.2.2.2.1), (cf4_ gb106 (fr_ hw104_1 GW106.out) hHeld.2.2.2.2.2.2.2.2.2.2.2.2.2.2.2.1), (cf4_ gb106 (fr_ hw104_2 GW106.out) hHeld.2.2.2.2.2.2.2.2.2.2.2.2.2.2.2.2.1), (cf4_ gb106 (fr_ hw104_3 GW106.out) hHeld.2.2.2.2.2.2.2.2.2.2.2.2.2.2.2.2.2)⟩ (fun hHeld => ?_)
             clear hK K
             refine done_ (done_of HT_.out (by kernel_rfl)) ?_
             have hnb70 := NB105_101.out
             have hnc70 := NB101_105.out
             have hnb71 := NB105_102.out
             have hnc71 := NB102_105.out
             have hnb72 := NB105_106.out
             have hnc72 := NB106_105.out
             have hcz73_0 := cz_ (.int .i64 0) BK105.out 0
             have hcz73_1 := cz_ (.string (⟨#[]⟩ : ByteArray)) BK105.out 1
             have hcz73_2 := cz_ (.int .i64 0) BK105.out 2
             have hcz73_3 := cz_ (.int .i64 0) BK105.out 3
             have hfz73_0 := blk_frozen BK105.out 0
             have hfz73_1 := blk_frozen BK105.out 1
             have hfz73_2 := blk_frozen BK105.out 2
             have hfz73_3 := blk_frozen BK105.out 3
             have hnb74 := NB106_101.out
             have hnc74 := NB101_106.out
             have hnb75 := NB106_102.out
             have hnc75 := NB102_106.out
             have hcz76_0 := cz_ (.int .i64 0) BK106.out 0
             have hcz76_1 := cz_ (.string (⟨#[]⟩ : ByteArray)) BK106.out 1
             have hcz76_2 := cz_ (.int .i64 0) BK106.out 2
             have hcz76_3 := cz_ (.int .i64 0) BK106.out 3
             have hfz76_0 := blk_frozen BK106.out 0
             have hfz76_1 := blk_frozen BK106.out 1
             have hfz76_2 := blk_frozen BK106.out 2
             have hfz76_3 := blk_frozen BK106.out 3
             try go_wp2
             go_roundg k2
             case measure => have := HJ3.out; have := HK2.out; omega
             case rel => exact ⟨(wrap64 (x7_2 + 1)), sr_, H', ⟨by have := HJ3.out; have := HK2.out; omega⟩, ⟨by exact far4_ (far4_ (bk_ BK101.out) NB101_105.out) NB101_106.out⟩, ⟨by exact far4_ (far4_ (bk_ BK102.out) NB102_105.out) NB102_106.out⟩, ⟨bl4_ HB.out GE101.out GE102.out GE105.out GE106.out⟩⟩
           ·
            rw [if_neg c32] at H
            exact absurd H (by simp)
          ·
           rw [if_neg c31] at H
           exact absurd H (by simp)
         ·
          rw [if_neg c30] at H
          exact absurd H (by simp)
        ·
         rw [if_neg c29] at H
         exact absurd H (by simp)
       ·
        rw [if_neg c28] at H
        exact absurd H (by simp)
      ·
       rw [if_neg c27] at H
       have c27b0 := decide_eq_false c27
       clear c27
       replace H := Option.bind_eq_some_iff.mp H
       obtain ⟨t107, A770, H⟩ := H
       (try dsimp only at H)
       have A77 := Aside0.mk A770
       clear A770
       obtain rfl := Option.some.inj H
       have hnb78 := NB101_102.out
       have hnc78 := NB102_101.out
       have hcz79_0 := cz_ (.string a0_0) BK101.out 0
       have hcz79_1 := cz_ (.slice A0_1 l0_1.length c0_1) BK101.out 1
       have hcz79_2 := cz_ (.bool a0_2) BK101.out 2
       have hcz79_3 := cz_ (.slice A0_3 l0_3.length c0_3) BK101.out 3
       have hcz79_4 := cz_ (.int .i64 a0_4) BK101.out 4
       have hfz79_0 := blk_frozen BK101.out 0
       have hfz79_1 := blk_frozen BK101.out 1
       have hfz79_2 := blk_frozen BK101.out 2
       have hfz79_3 := blk_frozen BK101.out 3
       have hfz79_4 := blk_frozen BK101.out 4
       have hcz80_0 := cz_ (.string a1_0) BK102.out 0
       have hcz80_1 := cz_ (.slice A1_1 l1_1.length c1_1) BK102.out 1
       have hcz80_2 := cz_ (.bool a1_2) BK102.out 2
       have hcz80_3 := cz_ (.slice A1_3 l1_3.length c1_3) BK102.out 3
       have hcz80_4 := cz_ (.int .i64 a1_4) BK102.out 4
       have hfz80_0 := blk_frozen BK102.out 0
       have hfz80_1 := blk_frozen BK102.out 1
       have hfz80_2 := blk_frozen BK102.out 2
       have hfz80_3 := blk_frozen BK102.out 3
       have hfz80_4 := blk_frozen BK102.out 4
       go_wp2_with (first | ((with_reducible refine gate_callee (f := 24) rfl ?_); refine goesL_ (some 92) rfl rfl Tryd.func24 (by kernel_rfl) rfl #[.slice A0_3 l0_3.length c0_3, .slice A1_3 l1_3.length c1_3, .bool a2] rfl ga_ ?_; (with_reducible refine (hQF k2 _ _ l0_3 _ _ l1_3 a2 t107 _ ?side1 ?side2 ?side3 ?side4 A77.out).mono ?_); (case side1 => repeat (first | exact (Kd.C_below HR0_3.out HB.out) | (with_reducible refine Kd.C_alloc ?_ _) | (with_reducible refine Kd.C_drewN ?_ _) | (with_reducible refine Kd.C_drew ?_))); (case side2 => exact HC0_3.out); (case side3 => repeat (first | exact (Kd.C_below HR1_3.out HB.out) | (with_reducible refine Kd.C_alloc ?_ _) | (with_reducible refine Kd.C_drewN ?_ _) | (with_reducible refine Kd.C_drew ?_))); (case side4 => exact HC1_3.out); rintro e w81 ⟨rfl, hb⟩; refine ⟨_, rfl, ?_⟩; refine cut3_ (bb_ BK101.out hb) (bb_ BK102.out hb) (below_step (bl2_ HB.out GE101.out GE102.out) hb) ?_; clear BK101 BK102 HB; intro BK101 BK102 HB; (try clear hb); (try clear hb2); (try clear hk); (try clear hi)))
       go_ret
       exact ⟨er_, bl2_ HB.out GE101.out GE102.out⟩
/-! ### salchowref10_Equal: function 24 -/
def salchowref10_Equal.l0 (RF : Nat → ByteArray → List S46 → Bool → List S41 → Int → ByteArray → List S46 → Bool → List S41 → Int → Bool → Option Bool) : Nat → List (S41) → List (S41) → Bool → Int → Option (Bool)
 | 0, _, _, _, _ => none
 | k + 1, x0, x1, x2, x7 => if x7 < (x0.length : Int) then (if 0 ≤ x7 then (if x7 < (x1.length : Int) then ((RF k ((rd_T41 x0 x7).f0) ((rd_T41 x0 x7).f1) ((rd_T41 x0 x7).f2) ((rd_T41 x0 x7).f3) ((rd_T41 x0 x7).f4) ((rd_T41 x1 x7).f0) ((rd_T41 x1 x7).f1) ((rd_T41 x1 x7).f2) ((rd_T41 x1 x7).f3) ((rd_T41 x1 x7).f4) x2).bind fun t103 => (if t103 = true then (salchowref10_Equal.l0 RF k x0 x1 x2 (wrap64 (x7 + 1))) else (none))) else (none)) else (none)) else (some true)
def salchowref10_Equal.f (RF : Nat → ByteArray → List S46 → Bool → List S41 → Int → ByteArray → List S46 → Bool → List S41 → Int → Bool → Option Bool) (k : Nat) (l0 : List (S41)) (l1 : List (S41)) (a2 : Bool) : Option (Bool) := if (l0.length : Int) = (l1.length : Int) then (salchowref10_Equal.l0 RF k l0 l1 a2 0) else (none)
theorem salchowref10_Equal.mono_l (RF : Nat → ByteArray → List S46 → Bool → List S41 → Int → ByteArray → List S46 → Bool → List S41 → Int → Bool → Option Bool) (mRF : ∀ x0 x1 x2 x3 x4 x5 x6 x7 x8 x9 x10 k, LeO (RF k x0 x1 x2 x3 x4 x5 x6 x7 x8 x9 x10) (RF (k + 1) x0 x1 x2 x3 x4 x5 x6 x7 x8 x9 x10)) : ∀ k, (∀ y0 y1 y2 y3, LeO (salchowref10_Equal.l0 RF k y0 y1 y2 y3) (salchowref10_Equal.l0 RF (k + 1) y0 y1 y2 y3))
 | 0 => fun _ _ _ _ r h => by simp [salchowref10_Equal.l0] at h
 | k + 1 => by
  have ih0 := salchowref10_Equal.mono_l RF mRF k
  ·
   intro y0 y1 y2 y3
   unfold salchowref10_Equal.l0
   repeat' first
   | (with_reducible exact LeO.refl _)
   | exact ih0 _ _ _ _
   | exact mRF _ _ _ _ _ _ _ _ _ _ _ _
   | exact LeO.none _
   | refine LeO.ite ?_ ?_
   | refine LeO.bind ?_ (fun _ => ?_)
theorem salchowref10_Equal.mono (RF : Nat → ByteArray → List S46 → Bool → List S41 → Int → ByteArray → List S46 → Bool → List S41 → Int → Bool → Option Bool) (mRF : ∀ x0 x1 x2 x3 x4 x5 x6 x7 x8 x9 x10 k, LeO (RF k x0 x1 x2 x3 x4 x5 x6 x7 x8 x9 x10) (RF (k + 1) x0 x1 x2 x3 x4 x5 x6 x7 x8 x9 x10)) : ∀ a0 a1 a2 k, LeO (salchowref10_Equal.f RF k a0 a1 a2) (salchowref10_Equal.f RF (k + 1) a0 a1 a2) := by
 intro a0 a1 a2 k
 have ih0 := salchowref10_Equal.mono_l RF mRF k
 unfold salchowref10_Equal.f
 repeat' first
   | (with_reducible exact LeO.refl _)
   | exact ih0 _ _ _ _
   | exact mRF _ _ _ _ _ _ _ _ _ _ _ _
   | exact LeO.none _
   | refine LeO.ite ?_ ?_
   | refine LeO.bind ?_ (fun _ => ?_)
def salchowref10_Equal.T6 : Bool × List (List Nat × List Nat) := (true, [([], []), ([], []), ([0, 1], [0, 1]), ([2], [2]), ([], []), ([], []), ([4, 5], [4, 5]), ([6], [6]), ([], []), ([3, 7, 8], [3, 7, 8]), ([9], [9])])
def salchowref10_Equal.B6 : List Nat := [0, 0, 3, 7, 0, 0, 48, 112, 0, 511, 1023]
theorem salchowref10_Equal.tab6 : rtab .any (opsOf Tryd.f24 6) = salchowref10_Equal.T6 := by kernel_rfl
theorem salchowref10_Equal.bits6 : waitsOk salchowref10_Equal.T6.2 salchowref10_Equal.B6 = true := by kernel_rfl
set_option maxHeartbeats 8000000 in
set_option maxRecDepth 100000 in
theorem salchowref10_Equal.calls (RF : Nat → ByteArray → List S46 → Bool → List S41 → Int → ByteArray → List S46 → Bool → List S41 → Int → Bool → Option Bool) (hRF : ∀ (k : Nat) (a0_0 : ByteArray) (A0_1 : Option Addr) (c0_1 : Nat) (l0_1 : List (S46)) (a0_2 : Bool) (A0_3 : Option Addr) (c0_3 : Nat) (l0_3 : List (S41)) (a0_4 : Int) (a1_0 : ByteArray) (A1_1 : Option Addr) (c1_1 : Nat) (l1_1 : List (S46)) (a1_2 : Bool) (A1_3 : Option Addr) (c1_3 : Nat) (l1_3 : List (S41)) (a1_4 : Int) (a2 : Bool) (r : Bool) (w : World) (hr0_1 : Kd.C k46 w A0_1 l0_1.length l0_1) (hc0_1 : l0_1.length ≤ c0_1) (hr0_3 : Kd.C k41 w A0_3 l0_3.length l0_3) (hc0_3 : l0_3.length ≤ c0_3) (hr1_1 : Kd.C k46 w A1_1 l1_1.length l1_1) (hc1_1 : l1_1.length ≤ c1_1) (hr1_3 : Kd.C k41 w A1_3 l1_3.length l1_3) (hc1_3 : l1_3.length ≤ c1_3) (h : RF k a0_0 l0_1 a0_2 l0_3 a0_4 a1_0 l1_1 a1_2 l1_3 a1_4 a2 = some r), Calls Tryd.prog 54 #[.agg #[.string a0_0, .slice A0_1 l0_1.length c0_1, .bool a0_2, .slice A0_3 l0_3.length c0_3, .int .i64 a0_4], .agg #[.string a1_0, .slice A1_1 l1_1.length c1_1, .bool a1_2, .slice A1_3 l1_3.length c1_3, .int .i64 a1_4], .bool a2] w fun e w' => e = .returned (.bool r) ∧ Below w.heap.size w w') (k : Nat) (A0 : Option Addr) (c0 : Nat) (l0 : List (S41)) (A1 : Option Addr) (c1 : Nat) (l1 : List (S41)) (a2 : Bool) (r : Bool) (w : World) (hr0 : Kd.C k41 w A0 l0.length l0) (hc0 : l0.length ≤ c0) (hr1 : Kd.C k41 w A1 l1.length l1) (hc1 : l1.length ≤ c1) (h : salchowref10_Equal.f RF k l0 l1 a2 = some r) :
  Calls Tryd.prog 24 #[.slice A0 l0.length c0, .slice A1 l1.length c1, .bool a2] w fun e w' => e = .returned (.bool r) ∧ Below w.heap.size w w' := by
 have hu41 := Tryd.underlying41
 have HR0 := Aside0.mk hr0
 have HC0 := Aside0.mk hc0
 clear hr0 hc0
 have HR1 := Aside0.mk hr1
 have HC1 := Aside0.mk hc1
 clear hr1 hc1
 have HB := Aside0.mk (Below.refl w.heap.size w)
 have H : (if (l0.length : Int) = (l1.length : Int) then (salchowref10_Equal.l0 RF k l0 l1 a2 0) else (none)) = some r := h
 clear h
 by_cases c4 : (l0.length : Int) = (l1.length : Int)
 ·
  rw [if_pos c4] at H
  have c4b0 := beq_iff_eq.mpr c4
  have c4b1 := bne_eq_false_iff_eq.mpr c4
  have c4b2 : (l0.length == l1.length) = true := by first | simpa using c4 | (simp at c4 ⊢; omega)
  clear c4
  have H' := Aside0.mk H
  clear H
  go_enter Tryd.func24, Tryd.ntmps24
  go_wp2
  go_loopg [7] k (fun kq v7 w' => ∃ (x7_1 : Int), v7 = .int .i64 x7_1 ∧ Aside0 (salchowref10_Equal.l0 RF kq l0 l1 a2 x7_1 = some r) ∧ Aside0 (kq ≤ k) ∧ Aside0 (Below w.heap.size w w'))
  case atStart => exact ⟨(0), sr_, H', ⟨Nat.le_refl _⟩, ⟨bl_ HB.out⟩⟩
  case round =>
   clear H'
   try clear c1
   try clear c2
   try clear p2
   try clear c4
   try clear c4b0
   try clear c4b1
   try clear c4b2
   obtain ⟨x7_1, rfl, HA, HK1, HB⟩ := hrel
   cases gk with
   | zero => exact absurd HA.out (by simp [salchowref10_Equal.l0])
   | succ k1 =>
    have H := HA.out
    clear HA
    simp only [salchowref10_Equal.l0] at H
    by_cases c5 : x7_1 < (l0.length : Int)
    ·
     rw [if_pos c5] at H
     have c5b0 := decide_eq_true c5
     clear c5
     by_cases c6 : 0 ≤ x7_1
     ·
      rw [if_pos c6] at H
      have c6b0 := decide_eq_true c6
      clear c6
      by_cases c7 : x7_1 < (l1.length : Int)
      ·
       rw [if_pos c7] at H
       have c7b0 := decide_eq_true c7
       clear c7
       replace H := Option.bind_eq_some_iff.mp H
       obtain ⟨t103, A80, H⟩ := H
       (try dsimp only at H)
       have A8 := Aside0.mk A80
       clear A80
       by_cases c9 : t103 = true
       ·
        subst c9
        have H1 : (salchowref10_Equal.l0 RF k1 l0 l1 a2 (wrap64 (x7_1 + 1))) = some r := by rw [if_pos rfl] at H; exact H
        clear H
        have H := H1
        clear H1
        have H' := Aside0.mk H
        clear H
        try go_wp2
        refine cut1_ (below_drew1 HB.out) ?_
        clear HB
        intro HB
        have p101 : 0 ≤ (x7_1 : Int) := dt_
        have q101 : x7_1 < (l0.length : Int) := dt_
        obtain ⟨ad101, A101_1, c101_1, A101_3, c101_3, e101, hx101_0, hx101_1, hx101_2, hx101_3, hx101_4, hl101_1, hi101_1, hl101_3, hi101_3⟩ := at_T41 HR0.out x7_1 p101 q101
        have hw101_4 := hx101_4
        have hw101_3 := hx101_3
        have hw101_2 := hx101_2
        have hw101_1 := hx101_1
        have hw101_0 := hx101_0
        cases e101
        replace hx101_0 := pw_cell_below HB.out hx101_0
        replace hx101_1 := pw_cell_below HB.out hx101_1
        replace hx101_2 := pw_cell_below HB.out hx101_2
        replace hx101_3 := pw_cell_below HB.out hx101_3
        replace hx101_4 := pw_cell_below HB.out hx101_4
        have HR101_1 := Aside0.mk hi101_1
        have HC101_1 := Aside0.mk hl101_1
        clear hi101_1 hl101_1
        have HR101_3 := Aside0.mk hi101_3
        have HC101_3 := Aside0.mk hl101_3
        clear hi101_3 hl101_3
        replace p101 := eq_true p101
        replace q101 := eq_true q101
        have p102 : 0 ≤ (x7_1 : Int) := dt_
        have q102 : x7_1 < (l1.length : Int) := dt_
        obtain ⟨ad102, A102_1, c102_1, A102_3, c102_3, e102, hx102_0, hx102_1, hx102_2, hx102_3, hx102_4, hl102_1, hi102_1, hl102_3, hi102_3⟩ := at_T41 HR1.out x7_1 p102 q102
        have hw102_4 := hx102_4
        have hw102_3 := hx102_3
        have hw102_2 := hx102_2
        have hw102_1 := hx102_1
        have hw102_0 := hx102_0
        cases e102
        replace hx102_0 := pw_cell_below HB.out hx102_0
        replace hx102_1 := pw_cell_below HB.out hx102_1
        replace hx102_2 := pw_cell_below HB.out hx102_2
        replace hx102_3 := pw_cell_below HB.out hx102_3
        replace hx102_4 := pw_cell_below HB.out hx102_4
        have HR102_1 := Aside0.mk hi102_1
        have HC102_1 := Aside0.mk hl102_1
        clear hi102_1 hl102_1
        have HR102_3 := Aside0.mk hi102_3
        have HC102_3 := Aside0.mk hl102_3
        clear hi102_3 hl102_3
        replace p102 := eq_true p102
        replace q102 := eq_true q102
        refine start_ (n := 11) (S := fun w' => w'.cell? (ad101.add ((x7_1).toNat * 5)) = some (.string ((rd_T41 l0 x7_1).f0)) ∧ w'.cell? ⟨(ad101.add ((x7_1).toNat * 5)).block, (ad101.add ((x7_1).toNat * 5)).off + 1, none⟩ = some (.slice A101_1 ((rd_T41 l0 x7_1).f1).length c101_1) ∧ w'.cell? ⟨(ad101.add ((x7_1).toNat * 5)).block, (ad101.add ((x7_1).toNat * 5)).off + 2, none⟩ = some (.bool ((rd_T41 l0 x7_1).f2)) ∧ w'.cell? ⟨(ad101.add ((x7_1).toNat * 5)).block, (ad101.add ((x7_1).toNat * 5)).off + 3, none⟩ = some (.slice A101_3 ((rd_T41 l0 x7_1).f3).length c101_3) ∧ w'.cell? ⟨(ad101.add ((x7_1).toNat * 5)).block, (ad101.add ((x7_1).toNat * 5)).off + 4, none⟩ = some (.int .i64 ((rd_T41 l0 x7_1).f4)) ∧ w'.cell? (ad102.add ((x7_1).toNat * 5)) = some (.string ((rd_T41 l1 x7_1).f0)) ∧ w'.cell? ⟨(ad102.add ((x7_1).toNat * 5)).block, (ad102.add ((x7_1).toNat * 5)).off + 1, none⟩ = some (.slice A102_1 ((rd_T41 l1 x7_1).f1).length c102_1) ∧ w'.cell? ⟨(ad102.add ((x7_1).toNat * 5)).block, (ad102.add ((x7_1).toNat * 5)).off + 2, none⟩ = some (.bool ((rd_T41 l1 x7_1).f2)) ∧ w'.cell? ⟨(ad102.add ((x7_1).toNat * 5)).block, (ad102.add ((x7_1).toNat * 5)).off + 3, none⟩ = some (.slice A102_3 ((rd_T41 l1 x7_1).f3).length c102_3) ∧ w'.cell? ⟨(ad102.add ((x7_1).toNat * 5)).block, (ad102.add ((x7_1).toNat * 5)).off + 4, none⟩ = some (.int .i64 ((rd_T41 l1 x7_1).f4))) (ds := []) #[false, false, false, false, false, false, false, false, false, false, false] (by kernel_rfl) rfl rfl ⟨((HB.out.cell (World.block_lt_of_cell? w _ hw101_0)).trans hw101_0), ((HB.out.cell (World.block_lt_of_cell? w _ hw101_1)).trans hw101_1), ((HB.out.cell (World.block_lt_of_cell? w _ hw101_2)).trans hw101_2), ((HB.out.cell (World.block_lt_of_cell? w _ hw101_3)).trans hw101_3), ((HB.out.cell (World.block_lt_of_cell? w _ hw101_4)).trans hw101_4), ((HB.out.cell (World.block_lt_of_cell? w _ hw102_0)).trans hw102_0), ((HB.out.cell (World.block_lt_of_cell? w _ hw102_1)).trans hw102_1), ((HB.out.cell (World.block_lt_of_cell? w _ hw102_2)).trans hw102_2), ((HB.out.cell (World.block_lt_of_cell? w _ hw102_3)).trans hw102_3), ((HB.out.cell (World.block_lt_of_cell? w _ hw102_4)).trans hw102_4)⟩ (fun hHeld => ?_); refine with_tabW salchowref10_Equal.tab6 salchowref10_Equal.bits6 (fun HT_ HW_ => ?_)
        generalize wr.drew = w10 at HB HR101_1 HR101_3 HR102_1 HR102_3 hx101_0 hx101_1 hx101_2 hx101_3 hx101_4 hx102_0 hx102_1 hx102_2 hx102_3 hx102_4 hHeld ⊢
        refine pr_ (i := 0) (N := some 19) #[true, false, false, false, false, false, false, false, false, false, false] (any_of HT_.out (by kernel_rfl)) ?_
        refine pr_ (i := 1) (N := some 20) #[true, true, false, false, false, false, false, false, false, false, false] (any_of HT_.out (by kernel_rfl)) ?_
        refine pr_ (i := 2) (N := some 21) #[true, true, true, false, false, false, false, false, false, false, false] (any_of HT_.out (by kernel_rfl)) ?_
        refine pr_ (i := 4) (N := some 23) #[true, true, true, false, true, false, false, false, false, false, false] (any_of HT_.out (by kernel_rfl)) ?_
        refine pr_ (i := 5) (N := some 24) #[true, true, true, false, true, true, false, false, false, false, false] (any_of HT_.out (by kernel_rfl)) ?_
        refine pr_ (i := 6) (N := some 25) #[true, true, true, false, true, true, true, false, false, false, false] (any_of HT_.out (by kernel_rfl)) ?_
        refine pr_ (i := 8) (N := some 27) #[true, true, true, false, true, true, true, false, true, false, false] (any_of HT_.out (by kernel_rfl)) ?_
        refine take_ (i := 3) (N := some 22) (v := ?_) (a' := ?_) #[true, true, true, true, true, true, true, false, true, false, false] rfl rfl (take_ofW HT_.out HW_.out (by kernel_rfl)) (fun _ _ _ h => h) (Or.inl ⟨by rfl, ?_⟩) hHeld ?_ ?_
        rotate_left
        ·
         rintro w' ⟨s0, s1, s2, s3, s4, s5, s6, s7, s8, s9⟩
         go_simp
         with_reducible rfl
        rotate_left
        ·
         simp only [Act.put, List.setIfInBounds_toArray, List.set_cons_zero, List.set_cons_succ, i64_w, i32_w]
         rfl
        refine take_ (i := 7) (N := some 26) (v := ?_) (a' := ?_) #[true, true, true, true, true, true, true, true, true, false, false] rfl rfl (take_ofW HT_.out HW_.out (by kernel_rfl)) (fun _ _ _ h => h) (Or.inl ⟨by rfl, ?_⟩) hHeld ?_ ?_
        rotate_left
        ·
         rintro w' ⟨s0, s1, s2, s3, s4, s5, s6, s7, s8, s9⟩
         go_simp
         with_reducible rfl
        rotate_left
        ·
         simp only [Act.put, List.setIfInBounds_toArray, List.set_cons_zero, List.set_cons_succ, i64_w, i32_w]
         rfl
        refine one_ (i := 9) (N := some 28) #[true, true, true, true, true, true, true, true, true, true, false] rfl rfl (one_of HT_.out (by kernel_rfl)) (by decide) (fun K hK => ?_)
        refine goes_ Tryd.func54 (by kernel_rfl) rfl #[.agg #[.string ((rd_T41 l0 x7_1).f0), .slice A101_1 ((rd_T41 l0 x7_1).f1).length c101_1, .bool ((rd_T41 l0 x7_1).f2), .slice A101_3 ((rd_T41 l0 x7_1).f3).length c101_3, .int .i64 ((rd_T41 l0 x7_1).f4)], .agg #[.string ((rd_T41 l1 x7_1).f0), .slice A102_1 ((rd_T41 l1 x7_1).f1).length c102_1, .bool ((rd_T41 l1 x7_1).f2), .slice A102_3 ((rd_T41 l1 x7_1).f3).length c102_3, .int .i64 ((rd_T41 l1 x7_1).f4)], .bool a2] (by rfl) rfl rfl ga_ ?_
        with_reducible refine (hRF k1 ((rd_T41 l0 x7_1).f0) _ _ ((rd_T41 l0 x7_1).f1) ((rd_T41 l0 x7_1).f2) _ _ ((rd_T41 l0 x7_1).f3) ((rd_T41 l0 x7_1).f4) ((rd_T41 l1 x7_1).f0) _ _ ((rd_T41 l1 x7_1).f1) ((rd_T41 l1 x7_1).f2) _ _ ((rd_T41 l1 x7_1).f3) ((rd_T41 l1 x7_1).f4) a2 true _ ?side1 ?side2 ?side3 ?side4 ?side5 ?side6 ?side7 ?side8 A8.out).mono ?_
        (case side1 => repeat (first | exact (Kd.C_below HR101_1.out HB.out) | (with_reducible refine Kd.C_alloc ?_ _) | (with_reducible refine Kd.C_drewN ?_ _) | (with_reducible refine Kd.C_drew ?_)))
        (case side2 => exact HC101_1.out)
        (case side3 => repeat (first | exact (Kd.C_below HR101_3.out HB.out) | (with_reducible refine Kd.C_alloc ?_ _) | (with_reducible refine Kd.C_drewN ?_ _) | (with_reducible refine Kd.C_drew ?_)))
        (case side4 => exact HC101_3.out)
        (case side5 => repeat (first | exact (Kd.C_below HR102_1.out HB.out) | (with_reducible refine Kd.C_alloc ?_ _) | (with_reducible refine Kd.C_drewN ?_ _) | (with_reducible refine Kd.C_drew ?_)))
        (case side6 => exact HC102_1.out)
        (case side7 => repeat (first | exact (Kd.C_below HR102_3.out HB.out) | (with_reducible refine Kd.C_alloc ?_ _) | (with_reducible refine Kd.C_drewN ?_ _) | (with_reducible refine Kd.C_drew ?_)))
        (case side8 => exact HC102_3.out)
        rintro e w11 ⟨rfl, hb⟩
        refine ⟨_, rfl, ?_⟩
        refine cut1_ (below_step (bl_ HB.out) hb) ?_
        clear HB
        intro HB
        (try clear hb)
        (try clear hb2)
        (try clear hk)
        (try clear hi)
        refine hK.out _ _ ⟨((HB.out.cell (World.block_lt_of_cell? w _ hw101_0)).trans hw101_0), ((HB.out.cell (World.block_lt_of_cell? w _ hw101_1)).trans hw101_1), ((HB.out.cell (World.block_lt_of_cell? w _ hw101_2)).trans hw101_2), ((HB.out.cell (World.block_lt_of_cell? w _ hw101_3)).trans hw101_3), ((HB.out.cell (World.block_lt_of_cell? w _ hw101_4)).trans hw101_4), ((HB.out.cell (World.block_lt_of_cell? w _ hw102_0)).trans hw102_0), ((HB.out.cell (World.block_lt_of_cell? w _ hw102_1)).trans hw102_1), ((HB.out.cell (World.block_lt_of_cell? w _ hw102_2)).trans hw102_2), ((HB.out.cell (World.block_lt_of_cell? w _ hw102_3)).trans hw102_3), ((HB.out.cell (World.block_lt_of_cell? w _ hw102_4)).trans hw102_4)⟩ (fun hHeld => ?_)
        clear hK K
        refine norm_ (a' := ?_) ?_ ?_
        rotate_left
        ·
         show Act.put _ (some 28) _ = _
         simp only [Act.put, List.setIfInBounds_toArray, List.set_cons_zero, List.set_cons_succ, i64_w, i32_w]
         rfl
        refine pr_ (i := 10) (N := some 29) #[true, true, true, true, true, true, true, true, true, true, true] (any_of HT_.out (by kernel_rfl)) ?_
        refine done_ (done_of HT_.out (by kernel_rfl)) ?_
        try go_wp2
        go_roundg k1
        case measure => have := HK1.out; omega
        case rel => exact ⟨(wrap64 (x7_1 + 1)), sr_, H', ⟨by have := HK1.out; omega⟩, ⟨bl_ HB.out⟩⟩
       ·
        replace c9 := Bool.eq_false_iff.mpr c9
        subst c9
        have H1 : (none) = some r := by rw [if_neg (show ¬ (false = true) by decide)] at H; exact H
        clear H
        have H := H1
        clear H1
        exact absurd H (by simp)
      ·
       rw [if_neg c7] at H
       exact absurd H (by simp)
     ·
      rw [if_neg c6] at H
      exact absurd H (by simp)
    ·
     rw [if_neg c5] at H
     have c5b0 := decide_eq_false c5
     clear c5
     obtain rfl := Option.some.inj H
     go_wp2
     go_ret
     exact ⟨er_, bl_ HB.out⟩
 ·
  rw [if_neg c4] at H
  exact absurd H (by simp)
end Go.Proofs.YtkifdadhojbohaaDoor.Pr
namespace Go.Proofs.YtkifdadhojbohaaDoor.Pr
open Go.Proofs.YtkifdadhojbohaaDoor
open Go.RowKit Go.Proofs.YtkifdadhojbohaaDoorW.PrintWords Go.Proofs.YtkifdadhojbohaaDoorW.PrintLast Go.Proofs.YtkifdadhojbohaaDoorW.PrintMore
/-- Equal, with calls up to the depth d. -/
def eqT : Nat → (Nat → List S41 → List S41 → Bool → Option Bool)
 | 0 => fun _ _ _ _ => none
 | d + 1 => fun k a b p => salchowref10_Equal.f (fun j x0 x1 x2 x3 x4 x5 x6 x7 x8 x9 x10 => salchowref10_same.f (eqT d) j x0 x1 x2 x3 x4 x5 x6 x7 x8 x9 x10) k a b p
theorem eqT_calls : ∀ (d : Nat) (k : Nat) (A0 : Option Addr) (c0 : Nat) (l0 : List (S41)) (A1 : Option Addr) (c1 : Nat) (l1 : List (S41)) (a2 : Bool) (r : Bool) (w : World) (_ : Kd.C k41 w A0 l0.length l0) (_ : l0.length ≤ c0) (_ : Kd.C k41 w A1 l1.length l1) (_ : l1.length ≤ c1) (_ : eqT d k l0 l1 a2 = some r),
  Calls Tryd.prog 24 #[.slice A0 l0.length c0, .slice A1 l1.length c1, .bool a2] w fun e w' => e = .returned (.bool r) ∧ Below w.heap.size w w' := by
 intro d
 induction d with
 | zero => intro k A0 c0 l0 A1 c1 l1 a2 r w _ _ _ _ h; cases h
 | succ d ih =>
  intro k A0 c0 l0 A1 c1 l1 a2 r w h1 h2 h3 h4 h
  exact salchowref10_Equal.calls _ (fun k a0_0 A0_1 c0_1 l0_1 a0_2 A0_3 c0_3 l0_3 a0_4 a1_0 A1_1 c1_1 l1_1 a1_2 A1_3 c1_3 l1_3 a1_4 a2 r w g1 g2 g3 g4 g5 g6 g7 g8 g => salchowref10_same.calls (eqT d) ih k a0_0 A0_1 c0_1 l0_1 a0_2 A0_3 c0_3 l0_3 a0_4 a1_0 A1_1 c1_1 l1_1 a1_2 A1_3 c1_3 l1_3 a1_4 a2 r w g1 g2 g3 g4 g5 g6 g7 g8 g) k A0 c0 l0 A1 c1 l1 a2 r w h1 h2 h3 h4 h
theorem same_le (QF QG : Nat → List S41 → List S41 → Bool → Option Bool) (h : ∀ k a b p, LeO (QF k a b p) (QG k a b p)) : ∀ k, (∀ y0 y1 y2 y3 y4 y5 y6 y7 y8 y9 y10 y11, LeO (salchowref10_same.j0 QF k y0 y1 y2 y3 y4 y5 y6 y7 y8 y9 y10 y11) (salchowref10_same.j0 QG k y0 y1 y2 y3 y4 y5 y6 y7 y8 y9 y10 y11)) ∧ (∀ y0 y1 y2 y3 y4 y5 y6 y7 y8 y9 y10 y11, LeO (salchowref10_same.l0 QF k y0 y1 y2 y3 y4 y5 y6 y7 y8 y9 y10 y11) (salchowref10_same.l0 QG k y0 y1 y2 y3 y4 y5 y6 y7 y8 y9 y10 y11))
 | 0 => ⟨fun _ _ _ _ _ _ _ _ _ _ _ _ r h => by simp [salchowref10_same.j0] at h, fun _ _ _ _ _ _ _ _ _ _ _ _ r h => by simp [salchowref10_same.l0] at h⟩
 | k + 1 => by
  obtain ⟨i0, i1⟩ := same_le QF QG h k
  refine ⟨?_, ?_⟩
  ·
   intro y0 y1 y2 y3 y4 y5 y6 y7 y8 y9 y10 y11
   simp only [salchowref10_same.j0]
   repeat' first
    | exact h _ _ _ _
    | exact i0 _ _ _ _ _ _ _ _ _ _ _ _
    | exact i1 _ _ _ _ _ _ _ _ _ _ _ _
    | exact LeO.refl _
    | exact LeO.none _
    | refine LeO.ite ?_ ?_
    | refine LeO.bind ?_ (fun _ => ?_)
  ·
   intro y0 y1 y2 y3 y4 y5 y6 y7 y8 y9 y10 y11
   simp only [salchowref10_same.l0]
   repeat' first
    | exact h _ _ _ _
    | exact i0 _ _ _ _ _ _ _ _ _ _ _ _
    | exact i1 _ _ _ _ _ _ _ _ _ _ _ _
    | exact LeO.refl _
    | exact LeO.none _
    | refine LeO.ite ?_ ?_
    | refine LeO.bind ?_ (fun _ => ?_)
theorem same_leF (QF QG : Nat → List S41 → List S41 → Bool → Option Bool) (h : ∀ k a b p, LeO (QF k a b p) (QG k a b p)) (k : Nat) (x0 : ByteArray) (x1 : List S46) (x2 : Bool) (x3 : List S41) (x4 : Int) (x5 : ByteArray) (x6 : List S46) (x7 : Bool) (x8 : List S41) (x9 : Int) (x10 : Bool) :
  LeO (salchowref10_same.f QF k x0 x1 x2 x3 x4 x5 x6 x7 x8 x9 x10) (salchowref10_same.f QG k x0 x1 x2 x3 x4 x5 x6 x7 x8 x9 x10) := by
 obtain ⟨i0, i1⟩ := same_le QF QG h k
 unfold salchowref10_same.f
 repeat' first
  | exact i0 _ _ _ _ _ _ _ _ _ _ _ _
  | exact i1 _ _ _ _ _ _ _ _ _ _ _ _
  | exact LeO.refl _
  | exact LeO.none _
  | refine LeO.ite ?_ ?_
  | refine LeO.bind ?_ (fun _ => ?_)
theorem equal_le (RF RG : Nat → ByteArray → List S46 → Bool → List S41 → Int → ByteArray → List S46 → Bool → List S41 → Int → Bool → Option Bool) (h : ∀ k x0 x1 x2 x3 x4 x5 x6 x7 x8 x9 x10, LeO (RF k x0 x1 x2 x3 x4 x5 x6 x7 x8 x9 x10) (RG k x0 x1 x2 x3 x4 x5 x6 x7 x8 x9 x10)) : ∀ k y0 y1 y2 y3, LeO (salchowref10_Equal.l0 RF k y0 y1 y2 y3) (salchowref10_Equal.l0 RG k y0 y1 y2 y3)
 | 0 => fun _ _ _ _ r h => by simp [salchowref10_Equal.l0] at h
 | k + 1 => by
  have ih := equal_le RF RG h k
  intro y0 y1 y2 y3
  simp only [salchowref10_Equal.l0]
  repeat' first
   | exact h _ _ _ _ _ _ _ _ _ _ _ _
   | exact ih _ _ _ _
   | exact LeO.refl _
   | exact LeO.none _
   | refine LeO.ite ?_ ?_
   | refine LeO.bind ?_ (fun _ => ?_)
theorem eqT_deep : ∀ (d k : Nat) (a b : List S41) (p : Bool), LeO (eqT d k a b p) (eqT (d + 1) k a b p)
 | 0, k, a, b, p => fun r h => by cases h
 | d + 1, k, a, b, p => by
  have ih := eqT_deep d
  show LeO (salchowref10_Equal.f _ k a b p) (salchowref10_Equal.f _ k a b p)
  unfold salchowref10_Equal.f
  repeat' first
   | exact equal_le _ _ (fun k x0 x1 x2 x3 x4 x5 x6 x7 x8 x9 x10 => same_leF (eqT d) (eqT (d + 1)) (fun k a b p => ih k a b p) k x0 x1 x2 x3 x4 x5 x6 x7 x8 x9 x10) k _ _ _ _
   | exact LeO.refl _
   | exact LeO.none _
   | refine LeO.ite ?_ ?_
theorem eqT_mono : ∀ (d : Nat) (a b : List S41) (p : Bool) (k : Nat), LeO (eqT d k a b p) (eqT d (k + 1) a b p)
 | 0, a, b, p, k => fun r h => by cases h
 | d + 1, a, b, p, k => salchowref10_Equal.mono _ (fun x0 x1 x2 x3 x4 x5 x6 x7 x8 x9 x10 k => salchowref10_same.mono (eqT d) (fun x0 x1 x2 k => eqT_mono d x0 x1 x2 k) x0 x1 x2 x3 x4 x5 x6 x7 x8 x9 x10 k) a b p k
/-- The reference's Equal. -/
def ref10_Equal.f (k : Nat) (a b : List S41) (p : Bool) : Option Bool := eqT k k a b p
theorem ref10_Equal.mono : ∀ a b p k, LeO (ref10_Equal.f k a b p) (ref10_Equal.f (k + 1) a b p) := fun a b p k r h => eqT_deep k (k + 1) a b p r (eqT_mono k a b p k r h)
theorem ref10_Equal.calls (k : Nat) (A0 : Option Addr) (c0 : Nat) (l0 : List (S41)) (A1 : Option Addr) (c1 : Nat) (l1 : List (S41)) (a2 : Bool) (r : Bool) (w : World) (hr0 : Kd.C k41 w A0 l0.length l0) (hc0 : l0.length ≤ c0) (hr1 : Kd.C k41 w A1 l1.length l1) (hc1 : l1.length ≤ c1) (h : ref10_Equal.f k l0 l1 a2 = some r) :
  Calls Tryd.prog 24 #[.slice A0 l0.length c0, .slice A1 l1.length c1, .bool a2] w fun e w' => e = .returned (.bool r) ∧ Below w.heap.size w w' := eqT_calls k k A0 c0 l0 A1 c1 l1 a2 r w hr0 hc0 hr1 hc1 h
end Go.Proofs.YtkifdadhojbohaaDoor.Pr
namespace Go.Proofs.YtkifdadhojbohaaDoor.Pu
open Go.RowKit Go.Proofs.YtkifdadhojbohaaDoor Go.Proofs.YtkifdadhojbohaaDoor.Pr Go.Proofs.YtkifdadhojbohaaDoorW.PrintWords Go.Proofs.YtkifdadhojbohaaDoorW.PrintLast Go.Proofs.YtkifdadhojbohaaDoorW.PrintMore
theorem same_atoms (QF : Nat → List S41 → List S41 → Bool → Option Bool) (p : Bool) (a b : List S46) (h : a.map (keyT p) = b.map (keyT p)) (ha : a.length ≤ 1000000) (x0 : ByteArray) (x2 : Bool) (ks js : List S41) (x4 : Int) (y0 : ByteArray) (y2 : Bool) (y4 : Int)
    (hQ : Ev (fun k => QF k ks js p) true) : ∀ (d i : Nat), i ≤ a.length → a.length - i = d → Ev (fun k => salchowref10_same.l0 QF k p (i : Int) x0 a x2 ks x4 y0 b y2 js y4) true := by
  have hl : a.length = b.length := by simpa using congrArg List.length h
  intro d
  induction d with
  | zero =>
    intro i hi hd
    refine Ev.succ ?_
    simp only [salchowref10_same.l0]
    exact Ev.ifn (by omega) (Ev.bind hQ (Ev.now _))
  | succ d ih =>
    intro i hi hd
    refine Ev.succ ?_
    obtain ⟨k0, k1, k2, k3⟩ := key_f (key_rd p h (i : Int))
    simp only [salchowref10_same.l0]
    refine Ev.ifp (by omega) (Ev.ifp natO (Ev.ifp (by omega) (Ev.ifp k0 (Ev.ifp (by rw [k1]) (Ev.ifp k2 ?_)))))
    rw [wrap_nat i (by omega)]
    by_cases hp : p = true
    · exact Ev.ifp hp (Ev.ifp (k3 hp) (ih (i + 1) (by omega) (by omega)))
    · exact Ev.ifn hp (ih (i + 1) (by omega) (by omega))
theorem same_ev (QF : Nat → List S41 → List S41 → Bool → Option Bool) (p : Bool) (c d : S41) (h0 : c.f0 = d.f0) (h2 : c.f2 = d.f2) (h1 : c.f1.map (keyT p) = d.f1.map (keyT p)) (h4 : p = true → c.f4 = d.f4) (hl : c.f1.length ≤ 1000000)
    (hQ : Ev (fun k => QF k c.f3 d.f3 p) true) : Ev (fun k => salchowref10_same.f QF k c.f0 c.f1 c.f2 c.f3 c.f4 d.f0 d.f1 d.f2 d.f3 d.f4 p) true := by
  have hn : c.f1.length = d.f1.length := by simpa using congrArg List.length h1
  have hj : Ev (fun k => salchowref10_same.j0 QF k p false c.f0 c.f1 c.f2 c.f3 c.f4 d.f0 d.f1 d.f2 d.f3 d.f4) true := by
    refine Ev.succ ?_
    simp only [salchowref10_same.j0]
    exact Ev.ifn (by simp) (same_atoms QF p c.f1 d.f1 h1 hl _ _ _ _ _ _ _ _ hQ c.f1.length 0 (by omega) (by omega))
  simp only [salchowref10_same.f]
  refine Ev.ifp (by rw [h0]) (Ev.ifn (by simp [h2]) (Ev.ifp (by omega) ?_))
  by_cases hp : p = true
  · have e : (c.f4 != d.f4) = false := by rw [h4 hp]; simp
    rw [e]
    exact Ev.ifp hp hj
  · exact Ev.ifn hp hj
abbrev eqR (d : Nat) : Nat → ByteArray → List S46 → Bool → List S41 → Int → ByteArray → List S46 → Bool → List S41 → Int → Bool → Option Bool := fun j x0 x1 x2 x3 x4 x5 x6 x7 x8 x9 x10 => salchowref10_same.f (eqT d) j x0 x1 x2 x3 x4 x5 x6 x7 x8 x9 x10
theorem equal_loop {p : Bool} {a b : List S41} (h : SmL p a b) : ∃ D, ∀ d, D ≤ d → ∀ (A B : List S41) (i : Nat), A.drop i = a → B.drop i = b → A.length = B.length → A.length ≤ 1000000 → i ≤ A.length → Ev (fun k => salchowref10_Equal.l0 (eqR d) k A B p (i : Int)) true := by
  induction h with
  | nil =>
    refine ⟨0, fun d _ A B i hA hB hl hn hi => ?_⟩
    have : A.length ≤ i := by
      have := congrArg List.length hA
      rw [List.length_drop] at this
      simp at this; omega
    refine Ev.succ ?_
    simp only [salchowref10_Equal.l0]
    exact Ev.ifn (by omega) (Ev.now _)
  | cons c d a b h0 h2 h1 h4 hl1 hl2 hk hr ihk ihr =>
    obtain ⟨D1, g1⟩ := ihk
    obtain ⟨D2, g2⟩ := ihr
    refine ⟨max (D1 + 1) D2, fun e he A B i hA hB hl hn hi => ?_⟩
    obtain ⟨a1, a2, a3⟩ := rd41_at hA
    obtain ⟨b1, b2, b3⟩ := rd41_at hB
    obtain ⟨e', rfl⟩ : ∃ e', e = e' + 1 := ⟨e - 1, by omega⟩
    refine Ev.succ ?_
    simp only [salchowref10_Equal.l0, a2, b2]
    refine Ev.ifp (by omega) (Ev.ifp natO (Ev.ifp (by omega) (Ev.bind (same_ev (eqT (e' + 1)) p c d h0 h2 h1 h4 hl1 ?_) (Ev.ifp rfl ?_))))
    · have hk' := hk.length
      have := g1 e' (by omega) c.f3 d.f3 0 rfl rfl hk'.1 hk'.2 (by omega)
      simp only [eqT, salchowref10_Equal.f]
      exact Ev.ifp (by omega) this
    · rw [wrap_nat i (by omega)]
      exact g2 (e' + 1) (by omega) A B (i + 1) a3 b3 hl hn (by omega)
theorem Equal_f {p : Bool} {a b : List S41} (h : SmL p a b) : Ev (fun k => ref10_Equal.f k a b p) true := by
  obtain ⟨D, g⟩ := equal_loop h
  have hl := h.length
  obtain ⟨K, hK⟩ := g D (by omega) a b 0 rfl rfl hl.1 hl.2 (by omega)
  refine ⟨max K (D + 1), fun k hk => ?_⟩
  have h1 : eqT (D + 1) k a b p = some true := by
    simp only [eqT, salchowref10_Equal.f]
    rw [if_pos (by omega)]
    exact hK k (by omega)
  have hdeep : ∀ n, eqT (D + 1 + n) k a b p = some true := by
    intro n
    induction n with
    | zero => exact h1
    | succ n ih => exact eqT_deep (D + 1 + n) k a b p _ ih
  have := hdeep (k - (D + 1))
  rwa [show D + 1 + (k - (D + 1)) = k by omega] at this
end Go.Proofs.YtkifdadhojbohaaDoor.Pu
