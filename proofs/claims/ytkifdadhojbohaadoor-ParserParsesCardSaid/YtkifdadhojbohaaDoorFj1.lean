/- Joined out of the texts of this proof that bear the names PrF54 PrF24 PrG24 PrF3 PwDr PwIa RowParserParses: what each shows stands over it there. -/
import Derived.Test.YtkifdadhojbohaaDoorFk1
import Derived.Test.YtkifdadhojbohaaDoorFb1
import Derived.Test.YtkifdadhojbohaaDoorFt1
import Derived.Test.YtkifdadhojbohaaDoorFf2
import Derived.Test.YtkifdadhojbohaaDoorFs1
import Derived.Test.YtkifdadhojbohaaDoorFp1
import Derived.Test.YtkifdadhojbohaaDoorFr1
import Derived.Test.YtkifdadhojbohaaDoorCards
import Derived.Test.YtkifdadhojbohaaDoorTie
import Derived.WalkKit
import Derived.OpenShut
import Derived.ShutString
import Derived.ChangeOld
import Derived.SizedLaws
import Derived.SevenTiedAt
import Derived.Handed
import Derived.LaidLaws
set_option linter.unusedVariables false
set_option linter.unusedSimpArgs false
set_option maxHeartbeats 8000000
set_option maxRecDepth 100000
namespace Go.Proofs.YtkifdadhojbohaaDoor.Pr
open Go.Proofs.YtkifdadhojbohaaDoor
open Go.RowKit Go.Proofs.YtkifdadhojbohaaDoorW.PrintWords Go.Proofs.YtkifdadhojbohaaDoorW.PrintLast Go.Proofs.YtkifdadhojbohaaDoorW.PrintMore
attribute [local go_sem] max2_int min2_int max_two min_two max_three min_three max_four min_four   -- for this text's walks alone
set_option linter.unusedVariables false
set_option linter.unusedSimpArgs false
mutual
def salchowref10_same.j0 (QF : Nat → List S41 → List S41 → Bool → Option Bool) : Nat → Bool → Bool → ByteArray → List (S46) → Bool → List (S41) → Int → ByteArray → List (S46) → Bool → List (S41) → Int → Option (Bool)
 | 0, _, _, _, _, _, _, _, _, _, _, _, _ => none
 | k + 1, x2, x40, x102000, x102001, x102002, x102003, x102004, x103000, x103001, x103002, x103003, x103004 => if x40 = true then (none) else (salchowref10_same.l0 QF k x2 0 x102000 x102001 x102002 x102003 x102004 x103000 x103001 x103002 x103003 x103004)
def salchowref10_same.l0 (QF : Nat → List S41 → List S41 → Bool → Option Bool) : Nat → Bool → Int → ByteArray → List (S46) → Bool → List (S41) → Int → ByteArray → List (S46) → Bool → List (S41) → Int → Option (Bool)
 | 0, _, _, _, _, _, _, _, _, _, _, _, _ => none
 | k + 1, x2, x7, x102000, x102001, x102002, x102003, x102004, x103000, x103001, x103002, x103003, x103004 => if x7 < (x102001.length : Int) then (if 0 ≤ x7 then (if x7 < (x103001.length : Int) then (if ((rd_T46 x102001 x7).f0) = ((rd_T46 x103001 x7).f0) then (if ((rd_T46 x102001 x7).f1).toList = ((rd_T46 x103001 x7).f1).toList then (if ((rd_T46 x102001 x7).f2) = ((rd_T46 x103001 x7).f2) then (if x2 = true then (if ((rd_T46 x102001 x7).f3) = ((rd_T46 x103001 x7).f3) then (salchowref10_same.l0 QF k x2 (wrap64 (x7 + 1)) x102000 x102001 x102002 x102003 x102004 x103000 x103001 x103002 x103003 x103004) else (none)) else (salchowref10_same.l0 QF k x2 (wrap64 (x7 + 1)) x102000 x102001 x102002 x102003 x102004 x103000 x103001 x103002 x103003 x103004)) else (none)) else (none)) else (none)) else (none)) else (none)) else ((QF k x102003 x103003 x2).bind fun t107 => (some t107))
end
def salchowref10_same.f (QF : Nat → List S41 → List S41 → Bool → Option Bool) (k : Nat) (a0_0 : ByteArray) (l0_1 : List (S46)) (a0_2 : Bool) (l0_3 : List (S41)) (a0_4 : Int) (a1_0 : ByteArray) (l1_1 : List (S46)) (a1_2 : Bool) (l1_3 : List (S41)) (a1_4 : Int) (a2 : Bool) : Option (Bool) := if a0_0.toList = a1_0.toList then (if (a0_2 != a1_2) = true then (salchowref10_same.j0 QF k a2 true a0_0 l0_1 a0_2 l0_3 a0_4 a1_0 l1_1 a1_2 l1_3 a1_4) else (if (l0_1.length : Int) = (l1_1.length : Int) then (if a2 = true then (salchowref10_same.j0 QF k a2 (a0_4 != a1_4) a0_0 l0_1 a0_2 l0_3 a0_4 a1_0 l1_1 a1_2 l1_3 a1_4) else (salchowref10_same.j0 QF k a2 false a0_0 l0_1 a0_2 l0_3 a0_4 a1_0 l1_1 a1_2 l1_3 a1_4)) else (salchowref10_same.j0 QF k a2 true a0_0 l0_1 a0_2 l0_3 a0_4 a1_0 l1_1 a1_2 l1_3 a1_4))) else (salchowref10_same.j0 QF k a2 true a0_0 l0_1 a0_2 l0_3 a0_4 a1_0 l1_1 a1_2 l1_3 a1_4)
theorem salchowref10_same.mono_l (QF : Nat → List S41 → List S41 → Bool → Option Bool) (mQF : ∀ x0 x1 x2 k, LeO (QF k x0 x1 x2) (QF (k + 1) x0 x1 x2)) : ∀ k, (∀ y0 y1 y2 y3 y4 y5 y6 y7 y8 y9 y10 y11, LeO (salchowref10_same.j0 QF k y0 y1 y2 y3 y4 y5 y6 y7 y8 y9 y10 y11) (salchowref10_same.j0 QF (k + 1) y0 y1 y2 y3 y4 y5 y6 y7 y8 y9 y10 y11)) ∧ (∀ y0 y1 y2 y3 y4 y5 y6 y7 y8 y9 y10 y11, LeO (salchowref10_same.l0 QF k y0 y1 y2 y3 y4 y5 y6 y7 y8 y9 y10 y11) (salchowref10_same.l0 QF (k + 1) y0 y1 y2 y3 y4 y5 y6 y7 y8 y9 y10 y11))
 | 0 => ⟨fun _ _ _ _ _ _ _ _ _ _ _ _ r h => by simp [salchowref10_same.j0] at h, fun _ _ _ _ _ _ _ _ _ _ _ _ r h => by simp [salchowref10_same.l0] at h⟩
 | k + 1 => by
  obtain ⟨ih0, ih1⟩ := salchowref10_same.mono_l QF mQF k
  refine ⟨?_, ?_⟩
  ·
   intro y0 y1 y2 y3 y4 y5 y6 y7 y8 y9 y10 y11
   unfold salchowref10_same.j0
   repeat' first
   | (with_reducible exact LeO.refl _)
   | exact ih0 _ _ _ _ _ _ _ _ _ _ _ _
   | exact ih1 _ _ _ _ _ _ _ _ _ _ _ _
   | exact mQF _ _ _ _
   | exact LeO.none _
   | refine LeO.ite ?_ ?_
   | refine LeO.bind ?_ (fun _ => ?_)
  ·
   intro y0 y1 y2 y3 y4 y5 y6 y7 y8 y9 y10 y11
   unfold salchowref10_same.l0
   repeat' first
   | (with_reducible exact LeO.refl _)
   | exact ih0 _ _ _ _ _ _ _ _ _ _ _ _
   | exact ih1 _ _ _ _ _ _ _ _ _ _ _ _
   | exact mQF _ _ _ _
   | exact LeO.none _
   | refine LeO.ite ?_ ?_
   | refine LeO.bind ?_ (fun _ => ?_)
theorem salchowref10_same.mono (QF : Nat → List S41 → List S41 → Bool → Option Bool) (mQF : ∀ x0 x1 x2 k, LeO (QF k x0 x1 x2) (QF (k + 1) x0 x1 x2)) : ∀ a0 a1 a2 a3 a4 a5 a6 a7 a8 a9 a10 k, LeO (salchowref10_same.f QF k a0 a1 a2 a3 a4 a5 a6 a7 a8 a9 a10) (salchowref10_same.f QF (k + 1) a0 a1 a2 a3 a4 a5 a6 a7 a8 a9 a10) := by
 intro a0 a1 a2 a3 a4 a5 a6 a7 a8 a9 a10 k
 obtain ⟨ih0, ih1⟩ := salchowref10_same.mono_l QF mQF k
 unfold salchowref10_same.f
 repeat' first
   | (with_reducible exact LeO.refl _)
   | exact ih0 _ _ _ _ _ _ _ _ _ _ _ _
   | exact ih1 _ _ _ _ _ _ _ _ _ _ _ _
   | exact mQF _ _ _ _
   | exact LeO.none _
   | refine LeO.ite ?_ ?_
   | refine LeO.bind ?_ (fun _ => ?_)
def salchowref10_same.T6 : Bool × List (List Nat × List Nat) := (true, [([], []), ([0], [0]), ([], []), ([1, 2], [1, 2]), ([3], [3]), ([], []), ([5], [5]), ([], []), ([6, 7], [6, 7]), ([8], [8]), ([], []), ([], []), ([10, 4, 0, 1, 2, 3, 4, 10, 11], [4, 10]), ([11, 9, 12, 0, 1, 2, 3, 4, 5, 6, 7, 8, 9, 10, 11, 12], [9, 11])])
def salchowref10_same.B6 : List Nat := [0, 1, 0, 7, 15, 0, 32, 0, 224, 480, 0, 0, 3103, 8191]
theorem salchowref10_same.tab6 : rtab .any (opsOf Tryd.f54 6) = salchowref10_same.T6 := by kernel_rfl
theorem salchowref10_same.bits6 : waitsOk salchowref10_same.T6.2 salchowref10_same.B6 = true := by kernel_rfl
abbrev Q51_ (A0_3 : Option Addr) (A1_3 : Option Addr) (a0_0 : ByteArray) (a0_2 : Bool) (a0_4 : Int) (a1_0 : ByteArray) (a1_2 : Bool) (a1_4 : Int) (ad103 : Addr) (ad104 : Addr) (c0_1 : Nat) (c0_3 : Nat) (c1_1 : Nat) (c1_3 : Nat) (gb101 : Nat) (gb102 : Nat) (l0_1 : List S46) (l0_3 : List S41) (l1_1 : List S46) (l1_3 : List S41) (x7_2 : Int) (w' : World) : Prop := w'.cell? ⟨gb101, 0, none⟩ = some (.string a0_0) ∧ w'.cell? ⟨gb101, 1, none⟩ = some (.slice (some ad103) l0_1.length c0_1) ∧ w'.cell? ⟨gb101, 2, none⟩ = some (.bool a0_2) ∧ w'.cell? ⟨gb101, 3, none⟩ = some (.slice A0_3 l0_3.length c0_3) ∧ w'.cell? ⟨gb101, 4, none⟩ = some (.int .i64 a0_4) ∧ w'.cell? ⟨gb102, 0, none⟩ = some (.string a1_0) ∧ w'.cell? ⟨gb102, 1, none⟩ = some (.slice (some ad104) l1_1.length c1_1) ∧ w'.cell? ⟨gb102, 2, none⟩ = some (.bool a1_2) ∧ w'.cell? ⟨gb102, 3, none⟩ = some (.slice A1_3 l1_3.length c1_3) ∧ w'.cell? ⟨gb102, 4, none⟩ = some (.int .i64 a1_4) ∧ w'.cell? (ad103.add ((x7_2).toNat * 4)) = some (.int .i64 ((rd_T46 l0_1 x7_2).f0)) ∧ w'.cell? ⟨(ad103.add ((x7_2).toNat * 4)).block, (ad103.add ((x7_2).toNat * 4)).off + 1, none⟩ = some (.string ((rd_T46 l0_1 x7_2).f1)) ∧ w'.cell? ⟨(ad103.add ((x7_2).toNat * 4)).block, (ad103.add ((x7_2).toNat * 4)).off + 2, none⟩ = some (.int .i64 ((rd_T46 l0_1 x7_2).f2)) ∧ w'.cell? ⟨(ad103.add ((x7_2).toNat * 4)).block, (ad103.add ((x7_2).toNat * 4)).off + 3, none⟩ = some (.int .i64 ((rd_T46 l0_1 x7_2).f3)) ∧ w'.cell? (ad104.add ((x7_2).toNat * 4)) = some (.int .i64 ((rd_T46 l1_1 x7_2).f0)) ∧ w'.cell? ⟨(ad104.add ((x7_2).toNat * 4)).block, (ad104.add ((x7_2).toNat * 4)).off + 1, none⟩ = some (.string ((rd_T46 l1_1 x7_2).f1)) ∧ w'.cell? ⟨(ad104.add ((x7_2).toNat * 4)).block, (ad104.add ((x7_2).toNat * 4)).off + 2, none⟩ = some (.int .i64 ((rd_T46 l1_1 x7_2).f2)) ∧ w'.cell? ⟨(ad104.add ((x7_2).toNat * 4)).block, (ad104.add ((x7_2).toNat * 4)).off + 3, none⟩ = some (.int .i64 ((rd_T46 l1_1 x7_2).f3))
theorem salchowref10_same.calls (QF : Nat → List S41 → List S41 → Bool → Option Bool) (hQF : ∀ (k : Nat) (A0 : Option Addr) (c0 : Nat) (l0 : List (S41)) (A1 : Option Addr) (c1 : Nat) (l1 : List (S41)) (a2 : Bool) (r : Bool) (w : World) (hr0 : Kd.C k41 w A0 l0.length l0) (hc0 : l0.length ≤ c0) (hr1 : Kd.C k41 w A1 l1.length l1) (hc1 : l1.length ≤ c1) (h : QF k l0 l1 a2 = some r), Calls Tryd.prog 24 #[.slice A0 l0.length c0, .slice A1 l1.length c1, .bool a2] w fun e w' => e = .returned (.bool r) ∧ Below w.heap.size w w') (k : Nat) (a0_0 : ByteArray) (A0_1 : Option Addr) (c0_1 : Nat) (l0_1 : List (S46)) (a0_2 : Bool) (A0_3 : Option Addr) (c0_3 : Nat) (l0_3 : List (S41)) (a0_4 : Int) (a1_0 : ByteArray) (A1_1 : Option Addr) (c1_1 : Nat) (l1_1 : List (S46)) (a1_2 : Bool) (A1_3 : Option Addr) (c1_3 : Nat) (l1_3 : List (S41)) (a1_4 : Int) (a2 : Bool) (r : Bool) (w : World) (hr0_1 : Kd.C k46 w A0_1 l0_1.length l0_1) (hc0_1 : l0_1.length ≤ c0_1) (hr0_3 : Kd.C k41 w A0_3 l0_3.length l0_3) (hc0_3 : l0_3.length ≤ c0_3) (hr1_1 : Kd.C k46 w A1_1 l1_1.length l1_1) (hc1_1 : l1_1.length ≤ c1_1) (hr1_3 : Kd.C k41 w A1_3 l1_3.length l1_3) (hc1_3 : l1_3.length ≤ c1_3) (h : salchowref10_same.f QF k a0_0 l0_1 a0_2 l0_3 a0_4 a1_0 l1_1 a1_2 l1_3 a1_4 a2 = some r) :
  Calls Tryd.prog 54 #[.agg #[.string a0_0, .slice A0_1 l0_1.length c0_1, .bool a0_2, .slice A0_3 l0_3.length c0_3, .int .i64 a0_4], .agg #[.string a1_0, .slice A1_1 l1_1.length c1_1, .bool a1_2, .slice A1_3 l1_3.length c1_3, .int .i64 a1_4], .bool a2] w fun e w' => e = .returned (.bool r) ∧ Below w.heap.size w w' := by
 have hu41 := Tryd.underlying41; have hu46 := Tryd.underlying46; have HR0_1 := Aside0.mk hr0_1; have HC0_1 := Aside0.mk hc0_1; clear hr0_1 hc0_1; have HR0_3 := Aside0.mk hr0_3; have HC0_3 := Aside0.mk hc0_3; clear hr0_3 hc0_3; have HR1_1 := Aside0.mk hr1_1; have HC1_1 := Aside0.mk hc1_1; clear hr1_1 hc1_1; have HR1_3 := Aside0.mk hr1_3; have HC1_3 := Aside0.mk hc1_3; clear hr1_3 hc1_3; have HB := Aside0.mk (Below.refl w.heap.size w); have H : (if a0_0.toList = a1_0.toList then (if (a0_2 != a1_2) = true then (salchowref10_same.j0 QF k a2 true a0_0 l0_1 a0_2 l0_3 a0_4 a1_0 l1_1 a1_2 l1_3 a1_4) else (if (l0_1.length : Int) = (l1_1.length : Int) then (if a2 = true then (salchowref10_same.j0 QF k a2 (a0_4 != a1_4) a0_0 l0_1 a0_2 l0_3 a0_4 a1_0 l1_1 a1_2 l1_3 a1_4) else (salchowref10_same.j0 QF k a2 false a0_0 l0_1 a0_2 l0_3 a0_4 a1_0 l1_1 a1_2 l1_3 a1_4)) else (salchowref10_same.j0 QF k a2 true a0_0 l0_1 a0_2 l0_3 a0_4 a1_0 l1_1 a1_2 l1_3 a1_4))) else (salchowref10_same.j0 QF k a2 true a0_0 l0_1 a0_2 l0_3 a0_4 a1_0 l1_1 a1_2 l1_3 a1_4)) = some r := h; clear h; have HC4 := Aside0.mk H; clear H
 go_enter Tryd.func54, Tryd.ntmps54
 go_upto_region 1 with (first | ((with_reducible refine gate_dst (N := 3) rfl ?_); (try (refine gate_guard (by rfl) ?_; dsimp only)); refine bx_ (N := 3) (cs := #[.string a0_0, .slice A0_1 l0_1.length c0_1, .bool a0_2, .slice A0_3 l0_3.length c0_3, .int .i64 a0_4]) (t := 41) ?_; intro gb101 hg w5 hbox hb; have n0_ := Aside0.mk (below_step (bl_ HB.out) hb); have n1_ := Aside0.mk (hbox); have n2_ := Aside0.mk (bz_ (w := w) hg (bl_ HB.out)); have n3_ := Aside0.mk (bz_ (w := w) hg (bl_ HB.out)); clear HB; have HB := n0_; have BK101 := n1_; have GW101 := n2_; have GE101 := n3_; clear n0_ n1_ n2_ n3_; clear hb hbox hg) | ((with_reducible refine gate_dst (N := 4) rfl ?_); (try (refine gate_guard (by rfl) ?_; dsimp only)); refine bx_ (N := 4) (cs := #[.string a1_0, .slice A1_1 l1_1.length c1_1, .bool a1_2, .slice A1_3 l1_3.length c1_3, .int .i64 a1_4]) (t := 41) ?_; intro gb102 hg w6 hbox hb; have n0_ := Aside0.mk (bb_ BK101.out hb); have n1_ := Aside0.mk (below_step (bl1_ HB.out GE101.out) hb); have n2_ := Aside0.mk (hbox); have n3_ := Aside0.mk (bz_ (w := w) hg (bl1_ HB.out GE101.out)); have n4_ := Aside0.mk (bz_ (w := w) hg (bl1_ HB.out GE101.out)); have n5_ := Aside0.mk (nl_ hg BK101.out); have n6_ := Aside0.mk (ng_ hg BK101.out); clear BK101; clear HB; have BK101 := n0_; have HB := n1_; have BK102 := n2_; have GW102 := n3_; have GE102 := n4_; have NB101_102 := n5_; have NB102_101 := n6_; clear n0_ n1_ n2_ n3_ n4_ n5_ n6_; clear hb hbox hg))
 (try simp only [Act.put, List.setIfInBounds_toArray, List.set_cons_zero, List.set_cons_succ])
 go_cut [40] (fun v40 wc => ∃ (kq : Nat) (x40_3 : Bool), v40 = .bool x40_3 ∧ Aside0 (salchowref10_same.j0 QF kq a2 x40_3 a0_0 l0_1 a0_2 l0_3 a0_4 a1_0 l1_1 a1_2 l1_3 a1_4 = some r) ∧ Aside0 (kq ≤ k) ∧ Aside0 (wc.heap[gb101]? = some (.cells #[.string a0_0, (.slice A0_1 l0_1.length c0_1), .bool a0_2, (.slice A0_3 l0_3.length c0_3), .int .i64 a0_4] 41 (0, 0))) ∧ Aside0 (wc.heap[gb102]? = some (.cells #[.string a1_0, (.slice A1_1 l1_1.length c1_1), .bool a1_2, (.slice A1_3 l1_3.length c1_3), .int .i64 a1_4] 41 (0, 0))) ∧ Aside0 (Below w.heap.size w wc))
 case first =>
  have H := HC4.out; clear HC4; replace H := (sp_ H).symm; obtain ⟨c7, H⟩ | ⟨c7, H⟩ := H
  ·
   have c7b0 := beq_eq_false_iff_ne.mpr c7; have c7b1 := bne_iff_ne.mpr c7
   (first | rw [c7b0] | (simp only [i64_w, i32_w]; rw [c7b0]) | skip)
   have H' := Aside0.mk H; clear H; have hnb23 := NB101_102.out; have hnc23 := NB102_101.out; obtain ⟨hcz24_0, hcz24_1, hcz24_2, hcz24_3, hcz24_4, hfz24_0, hfz24_1, hfz24_2, hfz24_3, hfz24_4⟩ := cq5_ BK101.out; obtain ⟨hcz25_0, hcz25_1, hcz25_2, hcz25_3, hcz25_4, hfz25_0, hfz25_1, hfz25_2, hfz25_3, hfz25_4⟩ := cq5_ BK102.out
   go_wp2
   go_meet
   case rel => exact ⟨_, (true), sr_, H', ⟨by first | omega | exact Nat.le_refl _⟩, ⟨bk_ BK101.out⟩, ⟨bk_ BK102.out⟩, ⟨bl2_ HB.out GE101.out GE102.out⟩⟩
  have c7b0 := beq_iff_eq.mpr c7; have c7b1 := bne_eq_false_iff_eq.mpr c7; clear c7
  (first | rw [c7b0] | (simp only [i64_w, i32_w]; rw [c7b0]) | skip)
  replace H := sp_ H; obtain ⟨c8, H⟩ | ⟨c8, H⟩ := H
  ·
   have c8b0 : (a0_2 != a1_2) = true := c8; (try (have c8b1 : decide (a0_2 = a1_2) = false := by simpa using c8)); (try (have c8b2 : (a0_2 == a1_2) = false := by simpa using c8)); (try (have c8b3 : ¬ (a0_2 = a1_2) := by simpa using c8)); clear c8; have H' := Aside0.mk H; clear H; have hnb9 := NB101_102.out; have hnc9 := NB102_101.out; obtain ⟨hcz10_0, hcz10_1, hcz10_2, hcz10_3, hcz10_4, hfz10_0, hfz10_1, hfz10_2, hfz10_3, hfz10_4⟩ := cq5_ BK101.out; obtain ⟨hcz11_0, hcz11_1, hcz11_2, hcz11_3, hcz11_4, hfz11_0, hfz11_1, hfz11_2, hfz11_3, hfz11_4⟩ := cq5_ BK102.out
   go_wp2
   go_meet
   case rel => exact ⟨_, (true), sr_, H', ⟨by first | omega | exact Nat.le_refl _⟩, ⟨bk_ BK101.out⟩, ⟨bk_ BK102.out⟩, ⟨bl2_ HB.out GE101.out GE102.out⟩⟩
  have c8b0 : (a0_2 != a1_2) = false := by simpa using c8
  (try (have c8b1 : decide (a0_2 = a1_2) = true := by simpa using c8)); (try (have c8b2 : (a0_2 == a1_2) = true := by simpa using c8)); clear c8; replace H := (sp_ H).symm; obtain ⟨c12, H⟩ | ⟨c12, H⟩ := H
  ·
   have c12b0 := beq_eq_false_iff_ne.mpr c12; have c12b1 := bne_iff_ne.mpr c12; have c12b2 : (l0_1.length == l1_1.length) = false := by first | simpa using c12 | (simp at c12 ⊢; omega)
   have H' := Aside0.mk H; clear H; have hnb20 := NB101_102.out; have hnc20 := NB102_101.out; obtain ⟨hcz21_0, hcz21_1, hcz21_2, hcz21_3, hcz21_4, hfz21_0, hfz21_1, hfz21_2, hfz21_3, hfz21_4⟩ := cq5_ BK101.out; obtain ⟨hcz22_0, hcz22_1, hcz22_2, hcz22_3, hcz22_4, hfz22_0, hfz22_1, hfz22_2, hfz22_3, hfz22_4⟩ := cq5_ BK102.out
   go_wp2
   go_meet
   case rel => exact ⟨_, (true), sr_, H', ⟨by first | omega | exact Nat.le_refl _⟩, ⟨bk_ BK101.out⟩, ⟨bk_ BK102.out⟩, ⟨bl2_ HB.out GE101.out GE102.out⟩⟩
  have c12b0 := beq_iff_eq.mpr c12; have c12b1 := bne_eq_false_iff_eq.mpr c12; have c12b2 : (l0_1.length == l1_1.length) = true := by first | simpa using c12 | (simp at c12 ⊢; omega)
  clear c12; replace H := sb_ H; obtain ⟨rfl, H⟩ | ⟨rfl, H⟩ := H
  ·
   have H' := Aside0.mk H; clear H; have hnb14 := NB101_102.out; have hnc14 := NB102_101.out; obtain ⟨hcz15_0, hcz15_1, hcz15_2, hcz15_3, hcz15_4, hfz15_0, hfz15_1, hfz15_2, hfz15_3, hfz15_4⟩ := cq5_ BK101.out; obtain ⟨hcz16_0, hcz16_1, hcz16_2, hcz16_3, hcz16_4, hfz16_0, hfz16_1, hfz16_2, hfz16_3, hfz16_4⟩ := cq5_ BK102.out
   go_wp2
   go_meet
   case rel => exact ⟨_, ((a0_4 != a1_4)), sr_, H', ⟨by first | omega | exact Nat.le_refl _⟩, ⟨bk_ BK101.out⟩, ⟨bk_ BK102.out⟩, ⟨bl2_ HB.out GE101.out GE102.out⟩⟩
  have H' := Aside0.mk H; clear H; have hnb17 := NB101_102.out; have hnc17 := NB102_101.out; obtain ⟨hcz18_0, hcz18_1, hcz18_2, hcz18_3, hcz18_4, hfz18_0, hfz18_1, hfz18_2, hfz18_3, hfz18_4⟩ := cq5_ BK101.out; obtain ⟨hcz19_0, hcz19_1, hcz19_2, hcz19_3, hcz19_4, hfz19_0, hfz19_1, hfz19_2, hfz19_3, hfz19_4⟩ := cq5_ BK102.out
  go_wp2
  go_meet
  case rel => exact ⟨_, (false), sr_, H', ⟨by first | omega | exact Nat.le_refl _⟩, ⟨bk_ BK101.out⟩, ⟨bk_ BK102.out⟩, ⟨bl2_ HB.out GE101.out GE102.out⟩⟩
 case rest =>
  clear HC4; (try clear c1); obtain ⟨kq, x40_3, rfl, HA, HJ3, BK101, BK102, HB⟩ := hcut
  cases kq with
  | zero => exact absurd HA.out (by simp [salchowref10_same.j0])
  | succ kj3 =>
   have H := HA.out; clear HA; simp only [salchowref10_same.j0] at H; replace H := gf_ H; obtain ⟨rfl, H⟩ := H; have H' := Aside0.mk H; clear H
   go_wp2
   go_loopg [7] kj3 (fun kq v7 w' => ∃ (x7_2 : Int), v7 = .int .i64 x7_2 ∧ Aside0 (salchowref10_same.l0 QF kq a2 x7_2 a0_0 l0_1 a0_2 l0_3 a0_4 a1_0 l1_1 a1_2 l1_3 a1_4 = some r) ∧ Aside0 (kq ≤ kj3) ∧ Aside0 (w'.heap[gb101]? = some (.cells #[.string a0_0, (.slice A0_1 l0_1.length c0_1), .bool a0_2, (.slice A0_3 l0_3.length c0_3), .int .i64 a0_4] 41 (0, 0))) ∧ Aside0 (w'.heap[gb102]? = some (.cells #[.string a1_0, (.slice A1_1 l1_1.length c1_1), .bool a1_2, (.slice A1_3 l1_3.length c1_3), .int .i64 a1_4] 41 (0, 0))) ∧ Aside0 (Below w.heap.size w w'))
   case atStart => exact ⟨(0), sr_, H', ⟨Nat.le_refl _⟩, ⟨bk_ BK101.out⟩, ⟨bk_ BK102.out⟩, ⟨bl2_ HB.out GE101.out GE102.out⟩⟩
   case round =>
    clear H'; (try clear c1); (try clear c26); obtain ⟨x7_2, rfl, HA, HK2, BK101, BK102, HB⟩ := hrel; obtain _ | k2 := gk
    · exact absurd HA.out (by simp [salchowref10_same.l0])
    have H := HA.out; clear HA; simp only [salchowref10_same.l0] at H; replace H := (sd_ H).symm; obtain ⟨c27b0, H⟩ | ⟨c27b0, H⟩ := H
    ·
     replace H := bn_ H; obtain ⟨t107, A77, H⟩ := H; (try dsimp only at H); obtain rfl := Option.some.inj H; have hnb78 := NB101_102.out; have hnc78 := NB102_101.out; obtain ⟨hcz79_0, hcz79_1, hcz79_2, hcz79_3, hcz79_4, hfz79_0, hfz79_1, hfz79_2, hfz79_3, hfz79_4⟩ := cq5_ BK101.out; obtain ⟨hcz80_0, hcz80_1, hcz80_2, hcz80_3, hcz80_4, hfz80_0, hfz80_1, hfz80_2, hfz80_3, hfz80_4⟩ := cq5_ BK102.out
     go_wp2_with (first | ((with_reducible refine gate_callee (f := 24) rfl ?_); refine gk_ (some 92) Tryd.func24 (hQF k2 _ _ l0_3 _ _ l1_3 a2 t107 _ ?side1 ?side2 ?side3 ?side4 A77.out) ?_; (case side1 => repeat (first | exact (Kd.C_below HR0_3.out HB.out) | (with_reducible refine Kd.C_alloc ?_ _) | (with_reducible refine Kd.C_drewN ?_ _) | (with_reducible refine Kd.C_drew ?_))); (case side2 => exact HC0_3.out); (case side3 => repeat (first | exact (Kd.C_below HR1_3.out HB.out) | (with_reducible refine Kd.C_alloc ?_ _) | (with_reducible refine Kd.C_drewN ?_ _) | (with_reducible refine Kd.C_drew ?_))); (case side4 => exact HC1_3.out); rintro e w81 ⟨rfl, hb⟩; refine ⟨_, rfl, ?_⟩; refine cut3_ (bb_ BK101.out hb) (bb_ BK102.out hb) (below_step (bl2_ HB.out GE101.out GE102.out) hb) ?_; clear hb BK101 BK102 HB; intro BK101 BK102 HB))
     go_ret
     exact ⟨er_, bl2_ HB.out GE101.out GE102.out⟩
    replace H := gd_ H; obtain ⟨c28b0, H⟩ := H; replace H := gd_ H; obtain ⟨c29b0, H⟩ := H; replace H := ge_ H; obtain ⟨c30b0, c30b1, H⟩ := H; replace H := ge_ H; obtain ⟨c31b0, c31b1, H⟩ := H; replace H := ge_ H; obtain ⟨c32b0, c32b1, H⟩ := H; replace H := (sb_ H).symm; obtain ⟨rfl, H⟩ | ⟨rfl, H⟩ := H
    ·
     have H' := Aside0.mk H; clear H; have hnb56 := NB101_102.out; have hnc56 := NB102_101.out; obtain ⟨hcz57_0, hcz57_1, hcz57_2, hcz57_3, hcz57_4, hfz57_0, hfz57_1, hfz57_2, hfz57_3, hfz57_4⟩ := cq5_ BK101.out
     try go_wp2
     refine cut3_ (blk_drew BK101.out) (blk_drew BK102.out) (below_drew1 HB.out) ?_; clear BK101 BK102 HB; intro BK101 BK102 HB; obtain ⟨p103, q103, ad103, e103, hw103_0, hw103_1, hw103_2, hw103_3, hx103_0, hx103_1, hx103_2, hx103_3⟩ := ab46_ HB.out HR0_1.out x7_2; cases e103; obtain ⟨p104, q104, ad104, e104, hw104_0, hw104_1, hw104_2, hw104_3, hx104_0, hx104_1, hx104_2, hx104_3⟩ := ab46_ HB.out HR1_1.out x7_2; cases e104; refine start_ (n := 14) (S := fun w' => Q51_ A0_3 A1_3 a0_0 a0_2 a0_4 a1_0 a1_2 a1_4 ad103 ad104 c0_1 c0_3 c1_1 c1_3 gb101 gb102 l0_1 l0_3 l1_1 l1_3 x7_2 w') (ds := []) (bm_ 14 0) (by kernel_rfl) rfl (by kernel_rfl) ⟨ce_ BK101.out 0, ce_ BK101.out 1, ce_ BK101.out 2, ce_ BK101.out 3, ce_ BK101.out 4, ce_ BK102.out 0, ce_ BK102.out 1, ce_ BK102.out 2, ce_ BK102.out 3, ce_ BK102.out 4, (pw_cell_below HB.out hw103_0), (pw_cell_below HB.out hw103_1), (pw_cell_below HB.out hw103_2), (pw_cell_below HB.out hw103_3), (pw_cell_below HB.out hw104_0), (pw_cell_below HB.out hw104_1), (pw_cell_below HB.out hw104_2), (pw_cell_below HB.out hw104_3)⟩ (fun hHeld => ?_); refine with_tabW salchowref10_same.tab6 salchowref10_same.bits6 (fun HT_ HW_ => ?_); generalize wr.drew = w58 at BK101 BK102 HB hx103_0 hx103_1 hx103_2 hx103_3 hx104_0 hx104_1 hx104_2 hx104_3 hHeld ⊢; refine pt_ HT_.out (i := 0) (N := some 48) (bm_ 14 1) ?_; refine pt_ HT_.out (i := 2) (N := some 50) (bm_ 14 5) ?_; refine pt_ HT_.out (i := 5) (N := some 53) (bm_ 14 37) ?_; refine pt_ HT_.out (i := 7) (N := some 55) (bm_ 14 165) ?_; refine tw_ HT_.out HW_.out hHeld (i := 1) (N := some 49) (bm_ 14 167) ?_; refine pt_ HT_.out (i := 3) (N := some 51) (bm_ 14 175) ?_; refine tw_ HT_.out HW_.out hHeld (i := 4) (N := some 52) (bm_ 14 191) ?_; refine tw_ HT_.out HW_.out hHeld (i := 6) (N := some 54) (bm_ 14 255) ?_; refine pt_ HT_.out (i := 8) (N := some 56) (bm_ 14 511) ?_; refine tw_ HT_.out HW_.out hHeld (i := 9) (N := some 57) (bm_ 14 1023) ?_; refine join_ (σ := Nat × Nat) 2 (bm_ 14 4095) (fun s_ => [(8, .pointer (some ⟨s_.1, 0, none⟩)), (9, .pointer (some ⟨s_.2, 0, none⟩))]) (fun s_ w' => (Q51_ A0_3 A1_3 a0_0 a0_2 a0_4 a1_0 a1_2 a1_4 ad103 ad104 c0_1 c0_3 c1_1 c1_3 gb101 gb102 l0_1 l0_3 l1_1 l1_3 x7_2 w') ∧ (w'.heap[gb101]? = some (.cells #[.string a0_0, .slice (some ad103) l0_1.length c0_1, .bool a0_2, .slice A0_3 l0_3.length c0_3, .int .i64 a0_4] 41 (0, 0))) ∧ (w'.heap[gb102]? = some (.cells #[.string a1_0, .slice (some ad104) l1_1.length c1_1, .bool a1_2, .slice A1_3 l1_3.length c1_3, .int .i64 a1_4] 41 (0, 0))) ∧ (w'.heap[s_.1]? = some (.cells #[.int .i64 0, .string (⟨#[]⟩ : ByteArray), .int .i64 0, .int .i64 0] 46 (0, 0))) ∧ (w'.heap[s_.2]? = some (.cells #[.int .i64 0, .string (⟨#[]⟩ : ByteArray), .int .i64 0, .int .i64 0] 46 (0, 0))) ∧ (w.heap.size ≤ s_.1) ∧ (w.heap.size ≤ s_.1) ∧ (gb101 ≠ s_.1) ∧ (s_.1 ≠ gb101) ∧ (gb102 ≠ s_.1) ∧ (s_.1 ≠ gb102) ∧ (s_.2 ≠ s_.1) ∧ (s_.1 ≠ s_.2) ∧ (w.heap.size ≤ s_.2) ∧ (w.heap.size ≤ s_.2) ∧ (gb101 ≠ s_.2) ∧ (s_.2 ≠ gb101) ∧ (gb102 ≠ s_.2) ∧ (s_.2 ≠ gb102) ∧ (Below w.heap.size w w')) ?_ ?_; rotate_left
     ·
      intro hCont; refine two_ (i := 10) (j := 11) (Ni := some 8) (Nj := some 9) (bm_ 14 2047) (bm_ 14 3071) rfl rfl rfl rfl (two_of HT_.out (by kernel_rfl)) (by decide) (by decide) (fun K hK => ?_) (fun K hK => ?_)
      ·
       skip
       refine bs_ (N := 8) (cs := #[.int .i64 0, .string (⟨#[]⟩ : ByteArray), .int .i64 0, .int .i64 0]) (t := 46) ?_; intro gb105 hg w59 hbox hb; refine cut10_ (bb_ BK101.out hb) (bb_ BK102.out hb) (below_step (bl2_ HB.out GE101.out GE102.out) hb) (hbox) (bz_ (w := w) hg (bl2_ HB.out GE101.out GE102.out)) (bz_ (w := w) hg (bl2_ HB.out GE101.out GE102.out)) (nl_ hg BK101.out) (ng_ hg BK101.out) (nl_ hg BK102.out) (ng_ hg BK102.out) ?_; clear BK101 BK102 HB; intro BK101 BK102 HB BK105 GW105 GE105 NB101_105 NB105_101 NB102_105 NB105_102; clear hb hbox hg; refine hK.out _ _ ⟨ce_ BK101.out 0, ce_ BK101.out 1, ce_ BK101.out 2, ce_ BK101.out 3, ce_ BK101.out 4, ce_ BK102.out 0, ce_ BK102.out 1, ce_ BK102.out 2, ce_ BK102.out 3, ce_ BK102.out 4, (pw_cell_below HB.out hw103_0), (pw_cell_below HB.out hw103_1), (pw_cell_below HB.out hw103_2), (pw_cell_below HB.out hw103_3), (pw_cell_below HB.out hw104_0), (pw_cell_below HB.out hw104_1), (pw_cell_below HB.out hw104_2), (pw_cell_below HB.out hw104_3)⟩ (fun hHeld => ?_); clear hK K; refine nm_ (ha := by show Act.put _ (some 8) _ = _; simp only [Act.put, List.setIfInBounds_toArray, List.set_cons_zero, List.set_cons_succ, i64_w, i32_w]; rfl) ?_; refine on_ HT_.out (i := 11) (N := some 9) (bm_ 14 4095) (fun K hK => ?_); refine bs_ (N := 9) (cs := #[.int .i64 0, .string (⟨#[]⟩ : ByteArray), .int .i64 0, .int .i64 0]) (t := 46) ?_; intro gb106 hg w60 hbox hb; refine cut13_ (bb_ BK101.out hb) (bb_ BK102.out hb) (bb_ BK105.out hb) (below_step (bl3_ HB.out GE101.out GE102.out GE105.out) hb) (hbox) (bz_ (w := w) hg (bl3_ HB.out GE101.out GE102.out GE105.out)) (bz_ (w := w) hg (bl3_ HB.out GE101.out GE102.out GE105.out)) (nl_ hg BK101.out) (ng_ hg BK101.out) (nl_ hg BK102.out) (ng_ hg BK102.out) (nl_ hg BK105.out) (ng_ hg BK105.out) ?_; clear BK101 BK102 BK105 HB; intro BK101 BK102 BK105 HB BK106 GW106 GE106 NB101_106 NB106_101 NB102_106 NB106_102 NB105_106 NB106_105; clear hb hbox hg; refine hK.out _ _ ⟨ce_ BK101.out 0, ce_ BK101.out 1, ce_ BK101.out 2, ce_ BK101.out 3, ce_ BK101.out 4, ce_ BK102.out 0, ce_ BK102.out 1, ce_ BK102.out 2, ce_ BK102.out 3, ce_ BK102.out 4, (pw_cell_below HB.out hw103_0), (pw_cell_below HB.out hw103_1), (pw_cell_below HB.out hw103_2), (pw_cell_below HB.out hw103_3), (pw_cell_below HB.out hw104_0), (pw_cell_below HB.out hw104_1), (pw_cell_below HB.out hw104_2), (pw_cell_below HB.out hw104_3)⟩ (fun hHeld => ?_); clear hK K; refine nm_ (ha := by show Act.put _ (some 9) _ = _; simp only [Act.put, List.setIfInBounds_toArray, List.set_cons_zero, List.set_cons_succ, i64_w, i32_w]; rfl) ?_; exact norm_ (by simp only [putAll, Act.put, List.setIfInBounds_toArray, List.set_cons_zero, List.set_cons_succ]) (hCont (gb105, gb106) _ ⟨hHeld, (bk_ BK101.out), (bk_ BK102.out), (bk_ BK105.out), (bk_ BK106.out), GW105.out, GE105.out, NB101_105.out, NB105_101.out, NB102_105.out, NB105_102.out, NB106_105.out, NB105_106.out, GW106.out, GE106.out, NB101_106.out, NB106_101.out, NB102_106.out, NB106_102.out, (bl4_ HB.out GE101.out GE102.out GE105.out GE106.out)⟩)
      skip
      refine bs_ (N := 9) (cs := #[.int .i64 0, .string (⟨#[]⟩ : ByteArray), .int .i64 0, .int .i64 0]) (t := 46) ?_; intro gb106 hg w59 hbox hb; refine cut10_ (bb_ BK101.out hb) (bb_ BK102.out hb) (below_step (bl2_ HB.out GE101.out GE102.out) hb) (hbox) (bz_ (w := w) hg (bl2_ HB.out GE101.out GE102.out)) (bz_ (w := w) hg (bl2_ HB.out GE101.out GE102.out)) (nl_ hg BK101.out) (ng_ hg BK101.out) (nl_ hg BK102.out) (ng_ hg BK102.out) ?_; clear BK101 BK102 HB; intro BK101 BK102 HB BK106 GW106 GE106 NB101_106 NB106_101 NB102_106 NB106_102; clear hb hbox hg; refine hK.out _ _ ⟨ce_ BK101.out 0, ce_ BK101.out 1, ce_ BK101.out 2, ce_ BK101.out 3, ce_ BK101.out 4, ce_ BK102.out 0, ce_ BK102.out 1, ce_ BK102.out 2, ce_ BK102.out 3, ce_ BK102.out 4, (pw_cell_below HB.out hw103_0), (pw_cell_below HB.out hw103_1), (pw_cell_below HB.out hw103_2), (pw_cell_below HB.out hw103_3), (pw_cell_below HB.out hw104_0), (pw_cell_below HB.out hw104_1), (pw_cell_below HB.out hw104_2), (pw_cell_below HB.out hw104_3)⟩ (fun hHeld => ?_); clear hK K; refine nm_ (ha := by show Act.put _ (some 9) _ = _; simp only [Act.put, List.setIfInBounds_toArray, List.set_cons_zero, List.set_cons_succ, i64_w, i32_w]; rfl) ?_; refine on_ HT_.out (i := 10) (N := some 8) (bm_ 14 4095) (fun K hK => ?_); refine bs_ (N := 8) (cs := #[.int .i64 0, .string (⟨#[]⟩ : ByteArray), .int .i64 0, .int .i64 0]) (t := 46) ?_; intro gb105 hg w60 hbox hb; refine cut13_ (bb_ BK101.out hb) (bb_ BK102.out hb) (bb_ BK106.out hb) (below_step (bl3_ HB.out GE101.out GE102.out GE106.out) hb) (hbox) (bz_ (w := w) hg (bl3_ HB.out GE101.out GE102.out GE106.out)) (bz_ (w := w) hg (bl3_ HB.out GE101.out GE102.out GE106.out)) (nl_ hg BK101.out) (ng_ hg BK101.out) (nl_ hg BK102.out) (ng_ hg BK102.out) (nl_ hg BK106.out) (ng_ hg BK106.out) ?_; clear BK101 BK102 BK106 HB; intro BK101 BK102 BK106 HB BK105 GW105 GE105 NB101_105 NB105_101 NB102_105 NB105_102 NB106_105 NB105_106; clear hb hbox hg; refine hK.out _ _ ⟨ce_ BK101.out 0, ce_ BK101.out 1, ce_ BK101.out 2, ce_ BK101.out 3, ce_ BK101.out 4, ce_ BK102.out 0, ce_ BK102.out 1, ce_ BK102.out 2, ce_ BK102.out 3, ce_ BK102.out 4, (pw_cell_below HB.out hw103_0), (pw_cell_below HB.out hw103_1), (pw_cell_below HB.out hw103_2), (pw_cell_below HB.out hw103_3), (pw_cell_below HB.out hw104_0), (pw_cell_below HB.out hw104_1), (pw_cell_below HB.out hw104_2), (pw_cell_below HB.out hw104_3)⟩ (fun hHeld => ?_); clear hK K; refine nm_ (ha := by show Act.put _ (some 8) _ = _; simp only [Act.put, List.setIfInBounds_toArray, List.set_cons_zero, List.set_cons_succ, i64_w, i32_w]; rfl) ?_; exact norm_ (by simp only [putAll, Act.put, List.setIfInBounds_toArray, List.set_cons_zero, List.set_cons_succ]) (hCont (gb105, gb106) _ ⟨hHeld, (bk_ BK101.out), (bk_ BK102.out), (bk_ BK105.out), (bk_ BK106.out), GW105.out, GE105.out, NB101_105.out, NB105_101.out, NB102_105.out, NB105_102.out, NB106_105.out, NB105_106.out, GW106.out, GE106.out, NB101_106.out, NB106_101.out, NB102_106.out, NB106_102.out, (bl4_ HB.out GE101.out GE102.out GE106.out GE105.out)⟩)
     rintro ⟨gb105, gb106⟩ w61 ⟨hHeld, h0_, h1_, h2_, h3_, h4_, h5_, h6_, h7_, h8_, h9_, h10_, h11_, h12_, h13_, h14_, h15_, h16_, h17_, h18_⟩; clear BK101 BK102 HB; have BK101 : Aside0 (w61.heap[gb101]? = some (.cells #[.string a0_0, .slice (some ad103) l0_1.length c0_1, .bool a0_2, .slice A0_3 l0_3.length c0_3, .int .i64 a0_4] 41 (0, 0))) := ⟨h0_⟩; have BK102 : Aside0 (w61.heap[gb102]? = some (.cells #[.string a1_0, .slice (some ad104) l1_1.length c1_1, .bool a1_2, .slice A1_3 l1_3.length c1_3, .int .i64 a1_4] 41 (0, 0))) := ⟨h1_⟩; have BK105 : Aside0 (w61.heap[gb105]? = some (.cells #[.int .i64 0, .string (⟨#[]⟩ : ByteArray), .int .i64 0, .int .i64 0] 46 (0, 0))) := ⟨h2_⟩; have BK106 : Aside0 (w61.heap[gb106]? = some (.cells #[.int .i64 0, .string (⟨#[]⟩ : ByteArray), .int .i64 0, .int .i64 0] 46 (0, 0))) := ⟨h3_⟩; have GW105 : Aside0 (w.heap.size ≤ gb105) := ⟨h4_⟩; have GE105 : Aside0 (w.heap.size ≤ gb105) := ⟨h5_⟩; have NB101_105 : Aside0 (gb101 ≠ gb105) := ⟨h6_⟩; have NB105_101 : Aside0 (gb105 ≠ gb101) := ⟨h7_⟩; have NB102_105 : Aside0 (gb102 ≠ gb105) := ⟨h8_⟩; have NB105_102 : Aside0 (gb105 ≠ gb102) := ⟨h9_⟩; have NB106_105 : Aside0 (gb106 ≠ gb105) := ⟨h10_⟩; have NB105_106 : Aside0 (gb105 ≠ gb106) := ⟨h11_⟩; have GW106 : Aside0 (w.heap.size ≤ gb106) := ⟨h12_⟩; have GE106 : Aside0 (w.heap.size ≤ gb106) := ⟨h13_⟩; have NB101_106 : Aside0 (gb101 ≠ gb106) := ⟨h14_⟩; have NB106_101 : Aside0 (gb106 ≠ gb101) := ⟨h15_⟩; have NB102_106 : Aside0 (gb102 ≠ gb106) := ⟨h16_⟩; have NB106_102 : Aside0 (gb106 ≠ gb102) := ⟨h17_⟩; have HB : Aside0 (Below w.heap.size w w61) := ⟨h18_⟩; clear h0_ h1_ h2_ h3_ h4_ h5_ h6_ h7_ h8_ h9_ h10_ h11_ h12_ h13_ h14_ h15_ h16_ h17_ h18_; refine norm_ (a' := ?_) ?_ ?_; rotate_left
     ·
      simp only [putAll, Act.put, List.setIfInBounds_toArray, List.set_cons_zero, List.set_cons_succ]
      rfl
     refine on_ HT_.out (i := 12) (N := none) (bm_ 14 8191) (fun K hK => ?_); have hs62 : w61.cell? ⟨gb105, 0, none⟩ = some (.int .i64 0) := (blk_cell BK105.out 0).trans rfl; have hfs62 := blk_frozen BK105.out 0; have hns62_0 := NB101_105.out; have hns62_1 := NB102_105.out; have hns62_3 := NB106_105.out; have hms62_0 := NB105_101.out; have hms62_1 := NB105_102.out; have hms62_3 := NB105_106.out; have hs63 : w61.cell? ⟨gb105, 1, none⟩ = some (.string (⟨#[]⟩ : ByteArray)) := (blk_cell BK105.out 1).trans rfl; have hfs63 := blk_frozen BK105.out 1; have hns63_0 := NB101_105.out; have hns63_1 := NB102_105.out; have hns63_3 := NB106_105.out; have hms63_0 := NB105_101.out; have hms63_1 := NB105_102.out; have hms63_3 := NB105_106.out; have hs64 : w61.cell? ⟨gb105, 2, none⟩ = some (.int .i64 0) := (blk_cell BK105.out 2).trans rfl; have hfs64 := blk_frozen BK105.out 2; have hns64_0 := NB101_105.out; have hns64_1 := NB102_105.out; have hns64_3 := NB106_105.out; have hms64_0 := NB105_101.out; have hms64_1 := NB105_102.out; have hms64_3 := NB105_106.out; have hs65 : w61.cell? ⟨gb105, 3, none⟩ = some (.int .i64 0) := (blk_cell BK105.out 3).trans rfl; have hfs65 := blk_frozen BK105.out 3; have hns65_0 := NB101_105.out; have hns65_1 := NB102_105.out; have hns65_3 := NB106_105.out; have hms65_0 := NB105_101.out; have hms65_1 := NB105_102.out; have hms65_3 := NB105_106.out; refine sk_ ?_; refine hK.out _ _ ⟨(cf4_ gb105 NB101_105.out hHeld.1), (cf4_ gb105 NB101_105.out hHeld.2.1), (cf4_ gb105 NB101_105.out hHeld.2.2.1), (cf4_ gb105 NB101_105.out hHeld.2.2.2.1), (cf4_ gb105 NB101_105.out hHeld.2.2.2.2.1), (cf4_ gb105 NB102_105.out hHeld.2.2.2.2.2.1), (cf4_ gb105 NB102_105.out hHeld.2.2.2.2.2.2.1), (cf4_ gb105 NB102_105.out hHeld.2.2.2.2.2.2.2.1), (cf4_ gb105 NB102_105.out hHeld.2.2.2.2.2.2.2.2.1), (cf4_ gb105 NB102_105.out hHeld.2.2.2.2.2.2.2.2.2.1), (cf4_ gb105 (fr_ hw103_0 GW105.out) hHeld.2.2.2.2.2.2.2.2.2.2.1), (cf4_ gb105 (fr_ hw103_1 GW105.out) hHeld.2.2.2.2.2.2.2.2.2.2.2.1), (cf4_ gb105 (fr_ hw103_2 GW105.out) hHeld.2.2.2.2.2.2.2.2.2.2.2.2.1), (cf4_ gb105 (fr_ hw103_3 GW105.out) hHeld.2.2.2.2.2.2.2.2.2.2.2.2.2.1), (cf4_ gb105 (fr_ hw104_0 GW105.out) hHeld.2.2.2.2.2.2.2.2.2.2.2.2.2.2.1), (cf4_ gb105 (fr_ hw104_1 GW105.out) hHeld.2.2.2.2.2.2.2.2.2.2.2.2.2.2.2.1), (cf4_ gb105 (fr_ hw104_2 GW105.out) hHeld.2.2.2.2.2.2.2.2.2.2.2.2.2.2.2.2.1), (cf4_ gb105 (fr_ hw104_3 GW105.out) hHeld.2.2.2.2.2.2.2.2.2.2.2.2.2.2.2.2.2)⟩ (fun hHeld => ?_); clear hK K; refine on_ HT_.out (i := 13) (N := none) (bm_ 14 16383) (fun K hK => ?_); have hs66 : w61.cell? ⟨gb106, 0, none⟩ = some (.int .i64 0) := (blk_cell BK106.out 0).trans rfl; have hfs66 := blk_frozen BK106.out 0; have hns66_0 := NB101_106.out; have hns66_1 := NB102_106.out; have hns66_2 := NB105_106.out; have hms66_0 := NB106_101.out; have hms66_1 := NB106_102.out; have hms66_2 := NB106_105.out; have hs67 : w61.cell? ⟨gb106, 1, none⟩ = some (.string (⟨#[]⟩ : ByteArray)) := (blk_cell BK106.out 1).trans rfl; have hfs67 := blk_frozen BK106.out 1; have hns67_0 := NB101_106.out; have hns67_1 := NB102_106.out; have hns67_2 := NB105_106.out; have hms67_0 := NB106_101.out; have hms67_1 := NB106_102.out; have hms67_2 := NB106_105.out; have hs68 : w61.cell? ⟨gb106, 2, none⟩ = some (.int .i64 0) := (blk_cell BK106.out 2).trans rfl; have hfs68 := blk_frozen BK106.out 2; have hns68_0 := NB101_106.out; have hns68_1 := NB102_106.out; have hns68_2 := NB105_106.out; have hms68_0 := NB106_101.out; have hms68_1 := NB106_102.out; have hms68_2 := NB106_105.out; have hs69 : w61.cell? ⟨gb106, 3, none⟩ = some (.int .i64 0) := (blk_cell BK106.out 3).trans rfl; have hfs69 := blk_frozen BK106.out 3; have hns69_0 := NB101_106.out; have hns69_1 := NB102_106.out; have hns69_2 := NB105_106.out; have hms69_0 := NB106_101.out; have hms69_1 := NB106_102.out; have hms69_2 := NB106_105.out; refine sk_ ?_; refine hK.out _ _ ⟨(cf4_ gb106 NB101_106.out hHeld.1), (cf4_ gb106 NB101_106.out hHeld.2.1), (cf4_ gb106 NB101_106.out hHeld.2.2.1), (cf4_ gb106 NB101_106.out hHeld.2.2.2.1), (cf4_ gb106 NB101_106.out hHeld.2.2.2.2.1), (cf4_ gb106 NB102_106.out hHeld.2.2.2.2.2.1), (cf4_ gb106 NB102_106.out hHeld.2.2.2.2.2.2.1), (cf4_ gb106 NB102_106.out hHeld.2.2.2.2.2.2.2.1), (cf4_ gb106 NB102_106.out hHeld.2.2.2.2.2.2.2.2.1), (cf4_ gb106 NB102_106.out hHeld.2.2.2.2.2.2.2.2.2.1), (cf4_ gb106 (fr_ hw103_0 GW106.out) hHeld.2.2.2.2.2.2.2.2.2.2.1), (cf4_ gb106 (fr_ hw103_1 GW106.out) hHeld.2.2.2.2.2.2.2.2.2.2.2.1), (cf4_ gb106 (fr_ hw103_2 GW106.out) hHeld.2.2.2.2.2.2.2.2.2.2.2.2.1), (cf4_ gb106 (fr_ hw103_3 GW106.out) hHeld.2.2.2.2.2.2.2.2.2.2.2.2.2.1), (cf4_ gb106 (fr_ hw104_0 GW106.out) hHeld.2.2.2.2.2.2.2.2.2.2.2.2.2.2.1), (cf4_ gb106 (fr_ hw104_1 GW106.out) hHeld.2.2.2.2.2.2.2.2.2.2.2.2.2.2.2.1), (cf4_ gb106 (fr_ hw104_2 GW106.out) hHeld.2.2.2.2.2.2.2.2.2.2.2.2.2.2.2.2.1), (cf4_ gb106 (fr_ hw104_3 GW106.out) hHeld.2.2.2.2.2.2.2.2.2.2.2.2.2.2.2.2.2)⟩ (fun hHeld => ?_); clear hK K; refine done_ (done_of HT_.out (by kernel_rfl)) ?_; have hnb70 := NB105_101.out; have hnc70 := NB101_105.out; have hnb71 := NB105_102.out; have hnc71 := NB102_105.out; have hnb72 := NB105_106.out; have hnc72 := NB106_105.out; obtain ⟨hcz73_0, hcz73_1, hcz73_2, hcz73_3, hfz73_0, hfz73_1, hfz73_2, hfz73_3⟩ := cq4_ BK105.out; have hnb74 := NB106_101.out; have hnc74 := NB101_106.out; have hnb75 := NB106_102.out; have hnc75 := NB102_106.out; obtain ⟨hcz76_0, hcz76_1, hcz76_2, hcz76_3, hfz76_0, hfz76_1, hfz76_2, hfz76_3⟩ := cq4_ BK106.out
     try go_wp2
     go_roundg k2
     case measure => have := HJ3.out; have := HK2.out; omega
     case rel => exact ⟨(wrap64 (x7_2 + 1)), sr_, H', ⟨by have := HJ3.out; have := HK2.out; omega⟩, ⟨far4_ (far4_ (bk_ BK101.out) NB101_105.out) NB101_106.out⟩, ⟨far4_ (far4_ (bk_ BK102.out) NB102_105.out) NB102_106.out⟩, ⟨bl4_ HB.out GE101.out GE102.out GE105.out GE106.out⟩⟩
    replace H := ge_ H; obtain ⟨c34b0, c34b1, H⟩ := H; have H' := Aside0.mk H; clear H; have hnb35 := NB101_102.out; have hnc35 := NB102_101.out; obtain ⟨hcz36_0, hcz36_1, hcz36_2, hcz36_3, hcz36_4, hfz36_0, hfz36_1, hfz36_2, hfz36_3, hfz36_4⟩ := cq5_ BK101.out
    try go_wp2
    refine cut3_ (blk_drew BK101.out) (blk_drew BK102.out) (below_drew1 HB.out) ?_; clear BK101 BK102 HB; intro BK101 BK102 HB; obtain ⟨p103, q103, ad103, e103, hw103_0, hw103_1, hw103_2, hw103_3, hx103_0, hx103_1, hx103_2, hx103_3⟩ := ab46_ HB.out HR0_1.out x7_2; cases e103; obtain ⟨p104, q104, ad104, e104, hw104_0, hw104_1, hw104_2, hw104_3, hx104_0, hx104_1, hx104_2, hx104_3⟩ := ab46_ HB.out HR1_1.out x7_2; cases e104; refine start_ (n := 14) (S := fun w' => Q51_ A0_3 A1_3 a0_0 a0_2 a0_4 a1_0 a1_2 a1_4 ad103 ad104 c0_1 c0_3 c1_1 c1_3 gb101 gb102 l0_1 l0_3 l1_1 l1_3 x7_2 w') (ds := []) (bm_ 14 0) (by kernel_rfl) rfl (by kernel_rfl) ⟨ce_ BK101.out 0, ce_ BK101.out 1, ce_ BK101.out 2, ce_ BK101.out 3, ce_ BK101.out 4, ce_ BK102.out 0, ce_ BK102.out 1, ce_ BK102.out 2, ce_ BK102.out 3, ce_ BK102.out 4, (pw_cell_below HB.out hw103_0), (pw_cell_below HB.out hw103_1), (pw_cell_below HB.out hw103_2), (pw_cell_below HB.out hw103_3), (pw_cell_below HB.out hw104_0), (pw_cell_below HB.out hw104_1), (pw_cell_below HB.out hw104_2), (pw_cell_below HB.out hw104_3)⟩ (fun hHeld => ?_); refine with_tabW salchowref10_same.tab6 salchowref10_same.bits6 (fun HT_ HW_ => ?_); generalize wr.drew = w37 at BK101 BK102 HB hx103_0 hx103_1 hx103_2 hx103_3 hx104_0 hx104_1 hx104_2 hx104_3 hHeld ⊢; refine pt_ HT_.out (i := 0) (N := some 48) (bm_ 14 1) ?_; refine pt_ HT_.out (i := 2) (N := some 50) (bm_ 14 5) ?_; refine pt_ HT_.out (i := 5) (N := some 53) (bm_ 14 37) ?_; refine pt_ HT_.out (i := 7) (N := some 55) (bm_ 14 165) ?_; refine tw_ HT_.out HW_.out hHeld (i := 1) (N := some 49) (bm_ 14 167) ?_; refine pt_ HT_.out (i := 3) (N := some 51) (bm_ 14 175) ?_; refine tw_ HT_.out HW_.out hHeld (i := 4) (N := some 52) (bm_ 14 191) ?_; refine tw_ HT_.out HW_.out hHeld (i := 6) (N := some 54) (bm_ 14 255) ?_; refine pt_ HT_.out (i := 8) (N := some 56) (bm_ 14 511) ?_; refine tw_ HT_.out HW_.out hHeld (i := 9) (N := some 57) (bm_ 14 1023) ?_; refine join_ (σ := Nat × Nat) 2 (bm_ 14 4095) (fun s_ => [(8, .pointer (some ⟨s_.1, 0, none⟩)), (9, .pointer (some ⟨s_.2, 0, none⟩))]) (fun s_ w' => (Q51_ A0_3 A1_3 a0_0 a0_2 a0_4 a1_0 a1_2 a1_4 ad103 ad104 c0_1 c0_3 c1_1 c1_3 gb101 gb102 l0_1 l0_3 l1_1 l1_3 x7_2 w') ∧ (w'.heap[gb101]? = some (.cells #[.string a0_0, .slice (some ad103) l0_1.length c0_1, .bool a0_2, .slice A0_3 l0_3.length c0_3, .int .i64 a0_4] 41 (0, 0))) ∧ (w'.heap[gb102]? = some (.cells #[.string a1_0, .slice (some ad104) l1_1.length c1_1, .bool a1_2, .slice A1_3 l1_3.length c1_3, .int .i64 a1_4] 41 (0, 0))) ∧ (w'.heap[s_.1]? = some (.cells #[.int .i64 0, .string (⟨#[]⟩ : ByteArray), .int .i64 0, .int .i64 0] 46 (0, 0))) ∧ (w'.heap[s_.2]? = some (.cells #[.int .i64 0, .string (⟨#[]⟩ : ByteArray), .int .i64 0, .int .i64 0] 46 (0, 0))) ∧ (w.heap.size ≤ s_.1) ∧ (w.heap.size ≤ s_.1) ∧ (gb101 ≠ s_.1) ∧ (s_.1 ≠ gb101) ∧ (gb102 ≠ s_.1) ∧ (s_.1 ≠ gb102) ∧ (s_.2 ≠ s_.1) ∧ (s_.1 ≠ s_.2) ∧ (w.heap.size ≤ s_.2) ∧ (w.heap.size ≤ s_.2) ∧ (gb101 ≠ s_.2) ∧ (s_.2 ≠ gb101) ∧ (gb102 ≠ s_.2) ∧ (s_.2 ≠ gb102) ∧ (Below w.heap.size w w')) ?_ ?_; rotate_left
    ·
     intro hCont; refine two_ (i := 10) (j := 11) (Ni := some 8) (Nj := some 9) (bm_ 14 2047) (bm_ 14 3071) rfl rfl rfl rfl (two_of HT_.out (by kernel_rfl)) (by decide) (by decide) (fun K hK => ?_) (fun K hK => ?_)
     ·
      skip
      refine bs_ (N := 8) (cs := #[.int .i64 0, .string (⟨#[]⟩ : ByteArray), .int .i64 0, .int .i64 0]) (t := 46) ?_; intro gb105 hg w38 hbox hb; refine cut10_ (bb_ BK101.out hb) (bb_ BK102.out hb) (below_step (bl2_ HB.out GE101.out GE102.out) hb) (hbox) (bz_ (w := w) hg (bl2_ HB.out GE101.out GE102.out)) (bz_ (w := w) hg (bl2_ HB.out GE101.out GE102.out)) (nl_ hg BK101.out) (ng_ hg BK101.out) (nl_ hg BK102.out) (ng_ hg BK102.out) ?_; clear BK101 BK102 HB; intro BK101 BK102 HB BK105 GW105 GE105 NB101_105 NB105_101 NB102_105 NB105_102; clear hb hbox hg; refine hK.out _ _ ⟨ce_ BK101.out 0, ce_ BK101.out 1, ce_ BK101.out 2, ce_ BK101.out 3, ce_ BK101.out 4, ce_ BK102.out 0, ce_ BK102.out 1, ce_ BK102.out 2, ce_ BK102.out 3, ce_ BK102.out 4, (pw_cell_below HB.out hw103_0), (pw_cell_below HB.out hw103_1), (pw_cell_below HB.out hw103_2), (pw_cell_below HB.out hw103_3), (pw_cell_below HB.out hw104_0), (pw_cell_below HB.out hw104_1), (pw_cell_below HB.out hw104_2), (pw_cell_below HB.out hw104_3)⟩ (fun hHeld => ?_); clear hK K; refine nm_ (ha := by show Act.put _ (some 8) _ = _; simp only [Act.put, List.setIfInBounds_toArray, List.set_cons_zero, List.set_cons_succ, i64_w, i32_w]; rfl) ?_; refine on_ HT_.out (i := 11) (N := some 9) (bm_ 14 4095) (fun K hK => ?_); refine bs_ (N := 9) (cs := #[.int .i64 0, .string (⟨#[]⟩ : ByteArray), .int .i64 0, .int .i64 0]) (t := 46) ?_; intro gb106 hg w39 hbox hb; refine cut13_ (bb_ BK101.out hb) (bb_ BK102.out hb) (bb_ BK105.out hb) (below_step (bl3_ HB.out GE101.out GE102.out GE105.out) hb) (hbox) (bz_ (w := w) hg (bl3_ HB.out GE101.out GE102.out GE105.out)) (bz_ (w := w) hg (bl3_ HB.out GE101.out GE102.out GE105.out)) (nl_ hg BK101.out) (ng_ hg BK101.out) (nl_ hg BK102.out) (ng_ hg BK102.out) (nl_ hg BK105.out) (ng_ hg BK105.out) ?_; clear BK101 BK102 BK105 HB; intro BK101 BK102 BK105 HB BK106 GW106 GE106 NB101_106 NB106_101 NB102_106 NB106_102 NB105_106 NB106_105; clear hb hbox hg; refine hK.out _ _ ⟨ce_ BK101.out 0, ce_ BK101.out 1, ce_ BK101.out 2, ce_ BK101.out 3, ce_ BK101.out 4, ce_ BK102.out 0, ce_ BK102.out 1, ce_ BK102.out 2, ce_ BK102.out 3, ce_ BK102.out 4, (pw_cell_below HB.out hw103_0), (pw_cell_below HB.out hw103_1), (pw_cell_below HB.out hw103_2), (pw_cell_below HB.out hw103_3), (pw_cell_below HB.out hw104_0), (pw_cell_below HB.out hw104_1), (pw_cell_below HB.out hw104_2), (pw_cell_below HB.out hw104_3)⟩ (fun hHeld => ?_); clear hK K; refine nm_ (ha := by show Act.put _ (some 9) _ = _; simp only [Act.put, List.setIfInBounds_toArray, List.set_cons_zero, List.set_cons_succ, i64_w, i32_w]; rfl) ?_; exact norm_ (by simp only [putAll, Act.put, List.setIfInBounds_toArray, List.set_cons_zero, List.set_cons_succ]) (hCont (gb105, gb106) _ ⟨hHeld, (bk_ BK101.out), (bk_ BK102.out), (bk_ BK105.out), (bk_ BK106.out), GW105.out, GE105.out, NB101_105.out, NB105_101.out, NB102_105.out, NB105_102.out, NB106_105.out, NB105_106.out, GW106.out, GE106.out, NB101_106.out, NB106_101.out, NB102_106.out, NB106_102.out, (bl4_ HB.out GE101.out GE102.out GE105.out GE106.out)⟩)
     skip
     refine bs_ (N := 9) (cs := #[.int .i64 0, .string (⟨#[]⟩ : ByteArray), .int .i64 0, .int .i64 0]) (t := 46) ?_; intro gb106 hg w38 hbox hb; refine cut10_ (bb_ BK101.out hb) (bb_ BK102.out hb) (below_step (bl2_ HB.out GE101.out GE102.out) hb) (hbox) (bz_ (w := w) hg (bl2_ HB.out GE101.out GE102.out)) (bz_ (w := w) hg (bl2_ HB.out GE101.out GE102.out)) (nl_ hg BK101.out) (ng_ hg BK101.out) (nl_ hg BK102.out) (ng_ hg BK102.out) ?_; clear BK101 BK102 HB; intro BK101 BK102 HB BK106 GW106 GE106 NB101_106 NB106_101 NB102_106 NB106_102; clear hb hbox hg; refine hK.out _ _ ⟨ce_ BK101.out 0, ce_ BK101.out 1, ce_ BK101.out 2, ce_ BK101.out 3, ce_ BK101.out 4, ce_ BK102.out 0, ce_ BK102.out 1, ce_ BK102.out 2, ce_ BK102.out 3, ce_ BK102.out 4, (pw_cell_below HB.out hw103_0), (pw_cell_below HB.out hw103_1), (pw_cell_below HB.out hw103_2), (pw_cell_below HB.out hw103_3), (pw_cell_below HB.out hw104_0), (pw_cell_below HB.out hw104_1), (pw_cell_below HB.out hw104_2), (pw_cell_below HB.out hw104_3)⟩ (fun hHeld => ?_); clear hK K; refine nm_ (ha := by show Act.put _ (some 9) _ = _; simp only [Act.put, List.setIfInBounds_toArray, List.set_cons_zero, List.set_cons_succ, i64_w, i32_w]; rfl) ?_; refine on_ HT_.out (i := 10) (N := some 8) (bm_ 14 4095) (fun K hK => ?_); refine bs_ (N := 8) (cs := #[.int .i64 0, .string (⟨#[]⟩ : ByteArray), .int .i64 0, .int .i64 0]) (t := 46) ?_; intro gb105 hg w39 hbox hb; refine cut13_ (bb_ BK101.out hb) (bb_ BK102.out hb) (bb_ BK106.out hb) (below_step (bl3_ HB.out GE101.out GE102.out GE106.out) hb) (hbox) (bz_ (w := w) hg (bl3_ HB.out GE101.out GE102.out GE106.out)) (bz_ (w := w) hg (bl3_ HB.out GE101.out GE102.out GE106.out)) (nl_ hg BK101.out) (ng_ hg BK101.out) (nl_ hg BK102.out) (ng_ hg BK102.out) (nl_ hg BK106.out) (ng_ hg BK106.out) ?_; clear BK101 BK102 BK106 HB; intro BK101 BK102 BK106 HB BK105 GW105 GE105 NB101_105 NB105_101 NB102_105 NB105_102 NB106_105 NB105_106; clear hb hbox hg; refine hK.out _ _ ⟨ce_ BK101.out 0, ce_ BK101.out 1, ce_ BK101.out 2, ce_ BK101.out 3, ce_ BK101.out 4, ce_ BK102.out 0, ce_ BK102.out 1, ce_ BK102.out 2, ce_ BK102.out 3, ce_ BK102.out 4, (pw_cell_below HB.out hw103_0), (pw_cell_below HB.out hw103_1), (pw_cell_below HB.out hw103_2), (pw_cell_below HB.out hw103_3), (pw_cell_below HB.out hw104_0), (pw_cell_below HB.out hw104_1), (pw_cell_below HB.out hw104_2), (pw_cell_below HB.out hw104_3)⟩ (fun hHeld => ?_); clear hK K; refine nm_ (ha := by show Act.put _ (some 8) _ = _; simp only [Act.put, List.setIfInBounds_toArray, List.set_cons_zero, List.set_cons_succ, i64_w, i32_w]; rfl) ?_; exact norm_ (by simp only [putAll, Act.put, List.setIfInBounds_toArray, List.set_cons_zero, List.set_cons_succ]) (hCont (gb105, gb106) _ ⟨hHeld, (bk_ BK101.out), (bk_ BK102.out), (bk_ BK105.out), (bk_ BK106.out), GW105.out, GE105.out, NB101_105.out, NB105_101.out, NB102_105.out, NB105_102.out, NB106_105.out, NB105_106.out, GW106.out, GE106.out, NB101_106.out, NB106_101.out, NB102_106.out, NB106_102.out, (bl4_ HB.out GE101.out GE102.out GE106.out GE105.out)⟩)
    rintro ⟨gb105, gb106⟩ w40 ⟨hHeld, h0_, h1_, h2_, h3_, h4_, h5_, h6_, h7_, h8_, h9_, h10_, h11_, h12_, h13_, h14_, h15_, h16_, h17_, h18_⟩; clear BK101 BK102 HB; have BK101 : Aside0 (w40.heap[gb101]? = some (.cells #[.string a0_0, .slice (some ad103) l0_1.length c0_1, .bool a0_2, .slice A0_3 l0_3.length c0_3, .int .i64 a0_4] 41 (0, 0))) := ⟨h0_⟩; have BK102 : Aside0 (w40.heap[gb102]? = some (.cells #[.string a1_0, .slice (some ad104) l1_1.length c1_1, .bool a1_2, .slice A1_3 l1_3.length c1_3, .int .i64 a1_4] 41 (0, 0))) := ⟨h1_⟩; have BK105 : Aside0 (w40.heap[gb105]? = some (.cells #[.int .i64 0, .string (⟨#[]⟩ : ByteArray), .int .i64 0, .int .i64 0] 46 (0, 0))) := ⟨h2_⟩; have BK106 : Aside0 (w40.heap[gb106]? = some (.cells #[.int .i64 0, .string (⟨#[]⟩ : ByteArray), .int .i64 0, .int .i64 0] 46 (0, 0))) := ⟨h3_⟩; have GW105 : Aside0 (w.heap.size ≤ gb105) := ⟨h4_⟩; have GE105 : Aside0 (w.heap.size ≤ gb105) := ⟨h5_⟩; have NB101_105 : Aside0 (gb101 ≠ gb105) := ⟨h6_⟩; have NB105_101 : Aside0 (gb105 ≠ gb101) := ⟨h7_⟩; have NB102_105 : Aside0 (gb102 ≠ gb105) := ⟨h8_⟩; have NB105_102 : Aside0 (gb105 ≠ gb102) := ⟨h9_⟩; have NB106_105 : Aside0 (gb106 ≠ gb105) := ⟨h10_⟩; have NB105_106 : Aside0 (gb105 ≠ gb106) := ⟨h11_⟩; have GW106 : Aside0 (w.heap.size ≤ gb106) := ⟨h12_⟩; have GE106 : Aside0 (w.heap.size ≤ gb106) := ⟨h13_⟩; have NB101_106 : Aside0 (gb101 ≠ gb106) := ⟨h14_⟩; have NB106_101 : Aside0 (gb106 ≠ gb101) := ⟨h15_⟩; have NB102_106 : Aside0 (gb102 ≠ gb106) := ⟨h16_⟩; have NB106_102 : Aside0 (gb106 ≠ gb102) := ⟨h17_⟩; have HB : Aside0 (Below w.heap.size w w40) := ⟨h18_⟩; clear h0_ h1_ h2_ h3_ h4_ h5_ h6_ h7_ h8_ h9_ h10_ h11_ h12_ h13_ h14_ h15_ h16_ h17_ h18_; refine norm_ (a' := ?_) ?_ ?_; rotate_left
    ·
     simp only [putAll, Act.put, List.setIfInBounds_toArray, List.set_cons_zero, List.set_cons_succ]
     rfl
    refine on_ HT_.out (i := 12) (N := none) (bm_ 14 8191) (fun K hK => ?_); have hs41 : w40.cell? ⟨gb105, 0, none⟩ = some (.int .i64 0) := (blk_cell BK105.out 0).trans rfl; have hfs41 := blk_frozen BK105.out 0; have hns41_0 := NB101_105.out; have hns41_1 := NB102_105.out; have hns41_3 := NB106_105.out; have hms41_0 := NB105_101.out; have hms41_1 := NB105_102.out; have hms41_3 := NB105_106.out; have hs42 : w40.cell? ⟨gb105, 1, none⟩ = some (.string (⟨#[]⟩ : ByteArray)) := (blk_cell BK105.out 1).trans rfl; have hfs42 := blk_frozen BK105.out 1; have hns42_0 := NB101_105.out; have hns42_1 := NB102_105.out; have hns42_3 := NB106_105.out; have hms42_0 := NB105_101.out; have hms42_1 := NB105_102.out; have hms42_3 := NB105_106.out; have hs43 : w40.cell? ⟨gb105, 2, none⟩ = some (.int .i64 0) := (blk_cell BK105.out 2).trans rfl; have hfs43 := blk_frozen BK105.out 2; have hns43_0 := NB101_105.out; have hns43_1 := NB102_105.out; have hns43_3 := NB106_105.out; have hms43_0 := NB105_101.out; have hms43_1 := NB105_102.out; have hms43_3 := NB105_106.out; have hs44 : w40.cell? ⟨gb105, 3, none⟩ = some (.int .i64 0) := (blk_cell BK105.out 3).trans rfl; have hfs44 := blk_frozen BK105.out 3; have hns44_0 := NB101_105.out; have hns44_1 := NB102_105.out; have hns44_3 := NB106_105.out; have hms44_0 := NB105_101.out; have hms44_1 := NB105_102.out; have hms44_3 := NB105_106.out; refine sk_ ?_; refine hK.out _ _ ⟨(cf4_ gb105 NB101_105.out hHeld.1), (cf4_ gb105 NB101_105.out hHeld.2.1), (cf4_ gb105 NB101_105.out hHeld.2.2.1), (cf4_ gb105 NB101_105.out hHeld.2.2.2.1), (cf4_ gb105 NB101_105.out hHeld.2.2.2.2.1), (cf4_ gb105 NB102_105.out hHeld.2.2.2.2.2.1), (cf4_ gb105 NB102_105.out hHeld.2.2.2.2.2.2.1), (cf4_ gb105 NB102_105.out hHeld.2.2.2.2.2.2.2.1), (cf4_ gb105 NB102_105.out hHeld.2.2.2.2.2.2.2.2.1), (cf4_ gb105 NB102_105.out hHeld.2.2.2.2.2.2.2.2.2.1), (cf4_ gb105 (fr_ hw103_0 GW105.out) hHeld.2.2.2.2.2.2.2.2.2.2.1), (cf4_ gb105 (fr_ hw103_1 GW105.out) hHeld.2.2.2.2.2.2.2.2.2.2.2.1), (cf4_ gb105 (fr_ hw103_2 GW105.out) hHeld.2.2.2.2.2.2.2.2.2.2.2.2.1), (cf4_ gb105 (fr_ hw103_3 GW105.out) hHeld.2.2.2.2.2.2.2.2.2.2.2.2.2.1), (cf4_ gb105 (fr_ hw104_0 GW105.out) hHeld.2.2.2.2.2.2.2.2.2.2.2.2.2.2.1), (cf4_ gb105 (fr_ hw104_1 GW105.out) hHeld.2.2.2.2.2.2.2.2.2.2.2.2.2.2.2.1), (cf4_ gb105 (fr_ hw104_2 GW105.out) hHeld.2.2.2.2.2.2.2.2.2.2.2.2.2.2.2.2.1), (cf4_ gb105 (fr_ hw104_3 GW105.out) hHeld.2.2.2.2.2.2.2.2.2.2.2.2.2.2.2.2.2)⟩ (fun hHeld => ?_); clear hK K; refine on_ HT_.out (i := 13) (N := none) (bm_ 14 16383) (fun K hK => ?_); have hs45 : w40.cell? ⟨gb106, 0, none⟩ = some (.int .i64 0) := (blk_cell BK106.out 0).trans rfl; have hfs45 := blk_frozen BK106.out 0; have hns45_0 := NB101_106.out; have hns45_1 := NB102_106.out; have hns45_2 := NB105_106.out; have hms45_0 := NB106_101.out; have hms45_1 := NB106_102.out; have hms45_2 := NB106_105.out; have hs46 : w40.cell? ⟨gb106, 1, none⟩ = some (.string (⟨#[]⟩ : ByteArray)) := (blk_cell BK106.out 1).trans rfl; have hfs46 := blk_frozen BK106.out 1; have hns46_0 := NB101_106.out; have hns46_1 := NB102_106.out; have hns46_2 := NB105_106.out; have hms46_0 := NB106_101.out; have hms46_1 := NB106_102.out; have hms46_2 := NB106_105.out; have hs47 : w40.cell? ⟨gb106, 2, none⟩ = some (.int .i64 0) := (blk_cell BK106.out 2).trans rfl; have hfs47 := blk_frozen BK106.out 2; have hns47_0 := NB101_106.out; have hns47_1 := NB102_106.out; have hns47_2 := NB105_106.out; have hms47_0 := NB106_101.out; have hms47_1 := NB106_102.out; have hms47_2 := NB106_105.out; have hs48 : w40.cell? ⟨gb106, 3, none⟩ = some (.int .i64 0) := (blk_cell BK106.out 3).trans rfl; have hfs48 := blk_frozen BK106.out 3; have hns48_0 := NB101_106.out; have hns48_1 := NB102_106.out; have hns48_2 := NB105_106.out; have hms48_0 := NB106_101.out; have hms48_1 := NB106_102.out; have hms48_2 := NB106_105.out; refine sk_ ?_; refine hK.out _ _ ⟨(cf4_ gb106 NB101_106.out hHeld.1), (cf4_ gb106 NB101_106.out hHeld.2.1), (cf4_ gb106 NB101_106.out hHeld.2.2.1), (cf4_ gb106 NB101_106.out hHeld.2.2.2.1), (cf4_ gb106 NB101_106.out hHeld.2.2.2.2.1), (cf4_ gb106 NB102_106.out hHeld.2.2.2.2.2.1), (cf4_ gb106 NB102_106.out hHeld.2.2.2.2.2.2.1), (cf4_ gb106 NB102_106.out hHeld.2.2.2.2.2.2.2.1), (cf4_ gb106 NB102_106.out hHeld.2.2.2.2.2.2.2.2.1), (cf4_ gb106 NB102_106.out hHeld.2.2.2.2.2.2.2.2.2.1), (cf4_ gb106 (fr_ hw103_0 GW106.out) hHeld.2.2.2.2.2.2.2.2.2.2.1), (cf4_ gb106 (fr_ hw103_1 GW106.out) hHeld.2.2.2.2.2.2.2.2.2.2.2.1), (cf4_ gb106 (fr_ hw103_2 GW106.out) hHeld.2.2.2.2.2.2.2.2.2.2.2.2.1), (cf4_ gb106 (fr_ hw103_3 GW106.out) hHeld.2.2.2.2.2.2.2.2.2.2.2.2.2.1), (cf4_ gb106 (fr_ hw104_0 GW106.out) hHeld.2.2.2.2.2.2.2.2.2.2.2.2.2.2.1), (cf4_ gb106 (fr_ hw104_1 GW106.out) hHeld.2.2.2.2.2.2.2.2.2.2.2.2.2.2.2.1), (cf4_ gb106 (fr_ hw104_2 GW106.out) hHeld.2.2.2.2.2.2.2.2.2.2.2.2.2.2.2.2.1), (cf4_ gb106 (fr_ hw104_3 GW106.out) hHeld.2.2.2.2.2.2.2.2.2.2.2.2.2.2.2.2.2)⟩ (fun hHeld => ?_); clear hK K; refine done_ (done_of HT_.out (by kernel_rfl)) ?_; have hnb49 := NB105_101.out; have hnc49 := NB101_105.out; have hnb50 := NB105_102.out; have hnc50 := NB102_105.out; have hnb51 := NB105_106.out; have hnc51 := NB106_105.out; obtain ⟨hcz52_0, hcz52_1, hcz52_2, hcz52_3, hfz52_0, hfz52_1, hfz52_2, hfz52_3⟩ := cq4_ BK105.out; have hnb53 := NB106_101.out; have hnc53 := NB101_106.out; have hnb54 := NB106_102.out; have hnc54 := NB102_106.out; obtain ⟨hcz55_0, hcz55_1, hcz55_2, hcz55_3, hfz55_0, hfz55_1, hfz55_2, hfz55_3⟩ := cq4_ BK106.out
    try go_wp2
    go_roundg k2
    case measure => have := HJ3.out; have := HK2.out; omega
    case rel => exact ⟨(wrap64 (x7_2 + 1)), sr_, H', ⟨by have := HJ3.out; have := HK2.out; omega⟩, ⟨far4_ (far4_ (bk_ BK101.out) NB101_105.out) NB101_106.out⟩, ⟨far4_ (far4_ (bk_ BK102.out) NB102_105.out) NB102_106.out⟩, ⟨bl4_ HB.out GE101.out GE102.out GE105.out GE106.out⟩⟩
def salchowref10_Equal.l0 (RF : Nat → ByteArray → List S46 → Bool → List S41 → Int → ByteArray → List S46 → Bool → List S41 → Int → Bool → Option Bool) : Nat → List (S41) → List (S41) → Bool → Int → Option (Bool)
 | 0, _, _, _, _ => none
 | k + 1, x0, x1, x2, x7 => if x7 < (x0.length : Int) then (if 0 ≤ x7 then (if x7 < (x1.length : Int) then ((RF k ((rd_T41 x0 x7).f0) ((rd_T41 x0 x7).f1) ((rd_T41 x0 x7).f2) ((rd_T41 x0 x7).f3) ((rd_T41 x0 x7).f4) ((rd_T41 x1 x7).f0) ((rd_T41 x1 x7).f1) ((rd_T41 x1 x7).f2) ((rd_T41 x1 x7).f3) ((rd_T41 x1 x7).f4) x2).bind fun t103 => (if t103 = true then (salchowref10_Equal.l0 RF k x0 x1 x2 (wrap64 (x7 + 1))) else (none))) else (none)) else (none)) else (some true)
def salchowref10_Equal.f (RF : Nat → ByteArray → List S46 → Bool → List S41 → Int → ByteArray → List S46 → Bool → List S41 → Int → Bool → Option Bool) (k : Nat) (l0 : List (S41)) (l1 : List (S41)) (a2 : Bool) : Option (Bool) := if (l0.length : Int) = (l1.length : Int) then (salchowref10_Equal.l0 RF k l0 l1 a2 0) else (none)
theorem salchowref10_Equal.mono_l (RF : Nat → ByteArray → List S46 → Bool → List S41 → Int → ByteArray → List S46 → Bool → List S41 → Int → Bool → Option Bool) (mRF : ∀ x0 x1 x2 x3 x4 x5 x6 x7 x8 x9 x10 k, LeO (RF k x0 x1 x2 x3 x4 x5 x6 x7 x8 x9 x10) (RF (k + 1) x0 x1 x2 x3 x4 x5 x6 x7 x8 x9 x10)) : ∀ k, (∀ y0 y1 y2 y3, LeO (salchowref10_Equal.l0 RF k y0 y1 y2 y3) (salchowref10_Equal.l0 RF (k + 1) y0 y1 y2 y3))
 | 0 => fun _ _ _ _ r h => by simp [salchowref10_Equal.l0] at h
 | k + 1 => by
  have ih0 := salchowref10_Equal.mono_l RF mRF k
  ·
   intro y0 y1 y2 y3
   unfold salchowref10_Equal.l0
   repeat' first
   | (with_reducible exact LeO.refl _)
   | exact ih0 _ _ _ _
   | exact mRF _ _ _ _ _ _ _ _ _ _ _ _
   | exact LeO.none _
   | refine LeO.ite ?_ ?_
   | refine LeO.bind ?_ (fun _ => ?_)
theorem salchowref10_Equal.mono (RF : Nat → ByteArray → List S46 → Bool → List S41 → Int → ByteArray → List S46 → Bool → List S41 → Int → Bool → Option Bool) (mRF : ∀ x0 x1 x2 x3 x4 x5 x6 x7 x8 x9 x10 k, LeO (RF k x0 x1 x2 x3 x4 x5 x6 x7 x8 x9 x10) (RF (k + 1) x0 x1 x2 x3 x4 x5 x6 x7 x8 x9 x10)) : ∀ a0 a1 a2 k, LeO (salchowref10_Equal.f RF k a0 a1 a2) (salchowref10_Equal.f RF (k + 1) a0 a1 a2) := by
 intro a0 a1 a2 k
 have ih0 := salchowref10_Equal.mono_l RF mRF k
 unfold salchowref10_Equal.f
 repeat' first
   | (with_reducible exact LeO.refl _)
   | exact ih0 _ _ _ _
   | exact mRF _ _ _ _ _ _ _ _ _ _ _ _
   | exact LeO.none _
   | refine LeO.ite ?_ ?_
   | refine LeO.bind ?_ (fun _ => ?_)
def salchowref10_Equal.T6 : Bool × List (List Nat × List Nat) := (true, [([], []), ([], []), ([0, 1], [0, 1]), ([2], [2]), ([], []), ([], []), ([4, 5], [4, 5]), ([6], [6]), ([], []), ([3, 7, 8], [3, 7, 8]), ([9], [9])])
def salchowref10_Equal.B6 : List Nat := [0, 0, 3, 7, 0, 0, 48, 112, 0, 511, 1023]
theorem salchowref10_Equal.tab6 : rtab .any (opsOf Tryd.f24 6) = salchowref10_Equal.T6 := by kernel_rfl
theorem salchowref10_Equal.bits6 : waitsOk salchowref10_Equal.T6.2 salchowref10_Equal.B6 = true := by kernel_rfl
theorem salchowref10_Equal.calls (RF : Nat → ByteArray → List S46 → Bool → List S41 → Int → ByteArray → List S46 → Bool → List S41 → Int → Bool → Option Bool) (hRF : ∀ (k : Nat) (a0_0 : ByteArray) (A0_1 : Option Addr) (c0_1 : Nat) (l0_1 : List (S46)) (a0_2 : Bool) (A0_3 : Option Addr) (c0_3 : Nat) (l0_3 : List (S41)) (a0_4 : Int) (a1_0 : ByteArray) (A1_1 : Option Addr) (c1_1 : Nat) (l1_1 : List (S46)) (a1_2 : Bool) (A1_3 : Option Addr) (c1_3 : Nat) (l1_3 : List (S41)) (a1_4 : Int) (a2 : Bool) (r : Bool) (w : World) (hr0_1 : Kd.C k46 w A0_1 l0_1.length l0_1) (hc0_1 : l0_1.length ≤ c0_1) (hr0_3 : Kd.C k41 w A0_3 l0_3.length l0_3) (hc0_3 : l0_3.length ≤ c0_3) (hr1_1 : Kd.C k46 w A1_1 l1_1.length l1_1) (hc1_1 : l1_1.length ≤ c1_1) (hr1_3 : Kd.C k41 w A1_3 l1_3.length l1_3) (hc1_3 : l1_3.length ≤ c1_3) (h : RF k a0_0 l0_1 a0_2 l0_3 a0_4 a1_0 l1_1 a1_2 l1_3 a1_4 a2 = some r), Calls Tryd.prog 54 #[.agg #[.string a0_0, .slice A0_1 l0_1.length c0_1, .bool a0_2, .slice A0_3 l0_3.length c0_3, .int .i64 a0_4], .agg #[.string a1_0, .slice A1_1 l1_1.length c1_1, .bool a1_2, .slice A1_3 l1_3.length c1_3, .int .i64 a1_4], .bool a2] w fun e w' => e = .returned (.bool r) ∧ Below w.heap.size w w') (k : Nat) (A0 : Option Addr) (c0 : Nat) (l0 : List (S41)) (A1 : Option Addr) (c1 : Nat) (l1 : List (S41)) (a2 : Bool) (r : Bool) (w : World) (hr0 : Kd.C k41 w A0 l0.length l0) (hc0 : l0.length ≤ c0) (hr1 : Kd.C k41 w A1 l1.length l1) (hc1 : l1.length ≤ c1) (h : salchowref10_Equal.f RF k l0 l1 a2 = some r) :
  Calls Tryd.prog 24 #[.slice A0 l0.length c0, .slice A1 l1.length c1, .bool a2] w fun e w' => e = .returned (.bool r) ∧ Below w.heap.size w w' := by
 have hu41 := Tryd.underlying41; have HR0 := Aside0.mk hr0; have HC0 := Aside0.mk hc0; clear hr0 hc0; have HR1 := Aside0.mk hr1; have HC1 := Aside0.mk hc1; clear hr1 hc1; have HB := Aside0.mk (Below.refl w.heap.size w); have H : (if (l0.length : Int) = (l1.length : Int) then (salchowref10_Equal.l0 RF k l0 l1 a2 0) else (none)) = some r := h; clear h; replace H := gp_ H; obtain ⟨c4, H⟩ := H; have c4b0 := beq_iff_eq.mpr c4; have c4b1 := bne_eq_false_iff_eq.mpr c4; have c4b2 : (l0.length == l1.length) = true := by first | simpa using c4 | (simp at c4 ⊢; omega)
 clear c4; have H' := Aside0.mk H; clear H
 go_enter Tryd.func24, Tryd.ntmps24
 go_wp2
 go_loopg [7] k (fun kq v7 w' => ∃ (x7_1 : Int), v7 = .int .i64 x7_1 ∧ Aside0 (salchowref10_Equal.l0 RF kq l0 l1 a2 x7_1 = some r) ∧ Aside0 (kq ≤ k) ∧ Aside0 (Below w.heap.size w w'))
 case atStart => exact ⟨(0), sr_, H', ⟨Nat.le_refl _⟩, ⟨bl_ HB.out⟩⟩
 case round =>
  clear H'; (try clear c1); (try clear c4); (try clear c4b0); (try clear c4b1); (try clear c4b2); obtain ⟨x7_1, rfl, HA, HK1, HB⟩ := hrel; obtain _ | k1 := gk
  · exact absurd HA.out (by simp [salchowref10_Equal.l0])
  have H := HA.out; clear HA; simp only [salchowref10_Equal.l0] at H; replace H := (sd_ H).symm; obtain ⟨c5b0, H⟩ | ⟨c5b0, H⟩ := H
  ·
   obtain rfl := Option.some.inj H
   go_wp2
   go_ret
   exact ⟨er_, bl_ HB.out⟩
  replace H := gd_ H; obtain ⟨c6b0, H⟩ := H; replace H := gd_ H; obtain ⟨c7b0, H⟩ := H; replace H := bn_ H; obtain ⟨t103, A8, H⟩ := H; (try dsimp only at H); replace H := gb_ H; obtain ⟨rfl, H⟩ := H; have H' := Aside0.mk H; clear H
  try go_wp2
  refine cut1_ (below_drew1 HB.out) ?_; clear HB; intro HB; have p101 : 0 ≤ (x7_1 : Int) := dt_; have q101 : x7_1 < (l0.length : Int) := dt_; obtain ⟨ad101, A101_1, c101_1, A101_3, c101_3, e101, hx101_0, hx101_1, hx101_2, hx101_3, hx101_4, hl101_1, hi101_1, hl101_3, hi101_3⟩ := at_T41 HR0.out x7_1 p101 q101; have hw101_4 := hx101_4; have hw101_3 := hx101_3; have hw101_2 := hx101_2; have hw101_1 := hx101_1; have hw101_0 := hx101_0; cases e101; replace hx101_0 := pw_cell_below HB.out hx101_0; replace hx101_1 := pw_cell_below HB.out hx101_1; replace hx101_2 := pw_cell_below HB.out hx101_2; replace hx101_3 := pw_cell_below HB.out hx101_3; replace hx101_4 := pw_cell_below HB.out hx101_4; have HR101_1 := Aside0.mk hi101_1; have HC101_1 := Aside0.mk hl101_1; clear hi101_1 hl101_1; have HR101_3 := Aside0.mk hi101_3; have HC101_3 := Aside0.mk hl101_3; clear hi101_3 hl101_3; replace p101 := eq_true p101; replace q101 := eq_true q101; have p102 : 0 ≤ (x7_1 : Int) := dt_; have q102 : x7_1 < (l1.length : Int) := dt_; obtain ⟨ad102, A102_1, c102_1, A102_3, c102_3, e102, hx102_0, hx102_1, hx102_2, hx102_3, hx102_4, hl102_1, hi102_1, hl102_3, hi102_3⟩ := at_T41 HR1.out x7_1 p102 q102; have hw102_4 := hx102_4; have hw102_3 := hx102_3; have hw102_2 := hx102_2; have hw102_1 := hx102_1; have hw102_0 := hx102_0; cases e102; replace hx102_0 := pw_cell_below HB.out hx102_0; replace hx102_1 := pw_cell_below HB.out hx102_1; replace hx102_2 := pw_cell_below HB.out hx102_2; replace hx102_3 := pw_cell_below HB.out hx102_3; replace hx102_4 := pw_cell_below HB.out hx102_4; have HR102_1 := Aside0.mk hi102_1; have HC102_1 := Aside0.mk hl102_1; clear hi102_1 hl102_1; have HR102_3 := Aside0.mk hi102_3; have HC102_3 := Aside0.mk hl102_3; clear hi102_3 hl102_3; replace p102 := eq_true p102; replace q102 := eq_true q102; refine start_ (n := 11) (S := fun w' => w'.cell? (ad101.add ((x7_1).toNat * 5)) = some (.string ((rd_T41 l0 x7_1).f0)) ∧ w'.cell? ⟨(ad101.add ((x7_1).toNat * 5)).block, (ad101.add ((x7_1).toNat * 5)).off + 1, none⟩ = some (.slice A101_1 ((rd_T41 l0 x7_1).f1).length c101_1) ∧ w'.cell? ⟨(ad101.add ((x7_1).toNat * 5)).block, (ad101.add ((x7_1).toNat * 5)).off + 2, none⟩ = some (.bool ((rd_T41 l0 x7_1).f2)) ∧ w'.cell? ⟨(ad101.add ((x7_1).toNat * 5)).block, (ad101.add ((x7_1).toNat * 5)).off + 3, none⟩ = some (.slice A101_3 ((rd_T41 l0 x7_1).f3).length c101_3) ∧ w'.cell? ⟨(ad101.add ((x7_1).toNat * 5)).block, (ad101.add ((x7_1).toNat * 5)).off + 4, none⟩ = some (.int .i64 ((rd_T41 l0 x7_1).f4)) ∧ w'.cell? (ad102.add ((x7_1).toNat * 5)) = some (.string ((rd_T41 l1 x7_1).f0)) ∧ w'.cell? ⟨(ad102.add ((x7_1).toNat * 5)).block, (ad102.add ((x7_1).toNat * 5)).off + 1, none⟩ = some (.slice A102_1 ((rd_T41 l1 x7_1).f1).length c102_1) ∧ w'.cell? ⟨(ad102.add ((x7_1).toNat * 5)).block, (ad102.add ((x7_1).toNat * 5)).off + 2, none⟩ = some (.bool ((rd_T41 l1 x7_1).f2)) ∧ w'.cell? ⟨(ad102.add ((x7_1).toNat * 5)).block, (ad102.add ((x7_1).toNat * 5)).off + 3, none⟩ = some (.slice A102_3 ((rd_T41 l1 x7_1).f3).length c102_3) ∧ w'.cell? ⟨(ad102.add ((x7_1).toNat * 5)).block, (ad102.add ((x7_1).toNat * 5)).off + 4, none⟩ = some (.int .i64 ((rd_T41 l1 x7_1).f4))) (ds := []) (bm_ 11 0) (by kernel_rfl) rfl (by kernel_rfl) ⟨(pw_cell_below HB.out hw101_0), (pw_cell_below HB.out hw101_1), (pw_cell_below HB.out hw101_2), (pw_cell_below HB.out hw101_3), (pw_cell_below HB.out hw101_4), (pw_cell_below HB.out hw102_0), (pw_cell_below HB.out hw102_1), (pw_cell_below HB.out hw102_2), (pw_cell_below HB.out hw102_3), (pw_cell_below HB.out hw102_4)⟩ (fun hHeld => ?_); refine with_tabW salchowref10_Equal.tab6 salchowref10_Equal.bits6 (fun HT_ HW_ => ?_); generalize wr.drew = w10 at HB HR101_1 HR101_3 HR102_1 HR102_3 hx101_0 hx101_1 hx101_2 hx101_3 hx101_4 hx102_0 hx102_1 hx102_2 hx102_3 hx102_4 hHeld ⊢; refine pt_ HT_.out (i := 0) (N := some 19) (bm_ 11 1) ?_; refine pt_ HT_.out (i := 1) (N := some 20) (bm_ 11 3) ?_; refine pt_ HT_.out (i := 2) (N := some 21) (bm_ 11 7) ?_; refine pt_ HT_.out (i := 4) (N := some 23) (bm_ 11 23) ?_; refine pt_ HT_.out (i := 5) (N := some 24) (bm_ 11 55) ?_; refine pt_ HT_.out (i := 6) (N := some 25) (bm_ 11 119) ?_; refine pt_ HT_.out (i := 8) (N := some 27) (bm_ 11 375) ?_; refine tw_ HT_.out HW_.out hHeld (i := 3) (N := some 22) (bm_ 11 383) ?_; refine tw_ HT_.out HW_.out hHeld (i := 7) (N := some 26) (bm_ 11 511) ?_; refine on_ HT_.out (i := 9) (N := some 28) (bm_ 11 1023) (fun K hK => ?_); refine goes_ Tryd.func54 (by kernel_rfl) rfl #[.agg #[.string ((rd_T41 l0 x7_1).f0), .slice A101_1 ((rd_T41 l0 x7_1).f1).length c101_1, .bool ((rd_T41 l0 x7_1).f2), .slice A101_3 ((rd_T41 l0 x7_1).f3).length c101_3, .int .i64 ((rd_T41 l0 x7_1).f4)], .agg #[.string ((rd_T41 l1 x7_1).f0), .slice A102_1 ((rd_T41 l1 x7_1).f1).length c102_1, .bool ((rd_T41 l1 x7_1).f2), .slice A102_3 ((rd_T41 l1 x7_1).f3).length c102_3, .int .i64 ((rd_T41 l1 x7_1).f4)], .bool a2] (by rfl) rfl rfl ga_ ?_
  with_reducible refine (hRF k1 ((rd_T41 l0 x7_1).f0) _ _ ((rd_T41 l0 x7_1).f1) ((rd_T41 l0 x7_1).f2) _ _ ((rd_T41 l0 x7_1).f3) ((rd_T41 l0 x7_1).f4) ((rd_T41 l1 x7_1).f0) _ _ ((rd_T41 l1 x7_1).f1) ((rd_T41 l1 x7_1).f2) _ _ ((rd_T41 l1 x7_1).f3) ((rd_T41 l1 x7_1).f4) a2 true _ ?side1 ?side2 ?side3 ?side4 ?side5 ?side6 ?side7 ?side8 A8.out).mono ?_
  (case side1 => repeat (first | exact (Kd.C_below HR101_1.out HB.out) | (with_reducible refine Kd.C_alloc ?_ _) | (with_reducible refine Kd.C_drewN ?_ _) | (with_reducible refine Kd.C_drew ?_)))
  (case side2 => exact HC101_1.out)
  (case side3 => repeat (first | exact (Kd.C_below HR101_3.out HB.out) | (with_reducible refine Kd.C_alloc ?_ _) | (with_reducible refine Kd.C_drewN ?_ _) | (with_reducible refine Kd.C_drew ?_)))
  (case side4 => exact HC101_3.out)
  (case side5 => repeat (first | exact (Kd.C_below HR102_1.out HB.out) | (with_reducible refine Kd.C_alloc ?_ _) | (with_reducible refine Kd.C_drewN ?_ _) | (with_reducible refine Kd.C_drew ?_)))
  (case side6 => exact HC102_1.out)
  (case side7 => repeat (first | exact (Kd.C_below HR102_3.out HB.out) | (with_reducible refine Kd.C_alloc ?_ _) | (with_reducible refine Kd.C_drewN ?_ _) | (with_reducible refine Kd.C_drew ?_)))
  (case side8 => exact HC102_3.out)
  rintro e w11 ⟨rfl, hb⟩; refine ⟨_, rfl, ?_⟩; refine cut1_ (below_step (bl_ HB.out) hb) ?_; clear HB; intro HB; (try clear hb); refine hK.out _ _ ⟨(pw_cell_below HB.out hw101_0), (pw_cell_below HB.out hw101_1), (pw_cell_below HB.out hw101_2), (pw_cell_below HB.out hw101_3), (pw_cell_below HB.out hw101_4), (pw_cell_below HB.out hw102_0), (pw_cell_below HB.out hw102_1), (pw_cell_below HB.out hw102_2), (pw_cell_below HB.out hw102_3), (pw_cell_below HB.out hw102_4)⟩ (fun hHeld => ?_); clear hK K; refine nm_ ?_; refine pt_ HT_.out (i := 10) (N := some 29) (bm_ 11 2047) ?_; refine done_ (done_of HT_.out (by kernel_rfl)) ?_
  try go_wp2
  go_roundg k1
  case measure => have := HK1.out; omega
  case rel => exact ⟨(wrap64 (x7_1 + 1)), sr_, H', ⟨om_ HK1.out⟩, ⟨bl_ HB.out⟩⟩
end Go.Proofs.YtkifdadhojbohaaDoor.Pr
namespace Go.Proofs.YtkifdadhojbohaaDoor.Pr
open Go.Proofs.YtkifdadhojbohaaDoor
open Go.RowKit Go.Proofs.YtkifdadhojbohaaDoorW.PrintWords Go.Proofs.YtkifdadhojbohaaDoorW.PrintLast Go.Proofs.YtkifdadhojbohaaDoorW.PrintMore
def eqT : Nat → (Nat → List S41 → List S41 → Bool → Option Bool)
 | 0 => fun _ _ _ _ => none
 | d + 1 => fun k a b p => salchowref10_Equal.f (fun j x0 x1 x2 x3 x4 x5 x6 x7 x8 x9 x10 => salchowref10_same.f (eqT d) j x0 x1 x2 x3 x4 x5 x6 x7 x8 x9 x10) k a b p
theorem eqT_calls : ∀ (d : Nat) (k : Nat) (A0 : Option Addr) (c0 : Nat) (l0 : List (S41)) (A1 : Option Addr) (c1 : Nat) (l1 : List (S41)) (a2 : Bool) (r : Bool) (w : World) (_ : Kd.C k41 w A0 l0.length l0) (_ : l0.length ≤ c0) (_ : Kd.C k41 w A1 l1.length l1) (_ : l1.length ≤ c1) (_ : eqT d k l0 l1 a2 = some r),
  Calls Tryd.prog 24 #[.slice A0 l0.length c0, .slice A1 l1.length c1, .bool a2] w fun e w' => e = .returned (.bool r) ∧ Below w.heap.size w w' := by
 intro d
 induction d with
 | zero => intro k A0 c0 l0 A1 c1 l1 a2 r w _ _ _ _ h; cases h
 | succ d ih =>
  intro k A0 c0 l0 A1 c1 l1 a2 r w h1 h2 h3 h4 h
  exact salchowref10_Equal.calls _ (fun k a0_0 A0_1 c0_1 l0_1 a0_2 A0_3 c0_3 l0_3 a0_4 a1_0 A1_1 c1_1 l1_1 a1_2 A1_3 c1_3 l1_3 a1_4 a2 r w g1 g2 g3 g4 g5 g6 g7 g8 g => salchowref10_same.calls (eqT d) ih k a0_0 A0_1 c0_1 l0_1 a0_2 A0_3 c0_3 l0_3 a0_4 a1_0 A1_1 c1_1 l1_1 a1_2 A1_3 c1_3 l1_3 a1_4 a2 r w g1 g2 g3 g4 g5 g6 g7 g8 g) k A0 c0 l0 A1 c1 l1 a2 r w h1 h2 h3 h4 h
theorem same_le (QF QG : Nat → List S41 → List S41 → Bool → Option Bool) (h : ∀ k a b p, LeO (QF k a b p) (QG k a b p)) : ∀ k, (∀ y0 y1 y2 y3 y4 y5 y6 y7 y8 y9 y10 y11, LeO (salchowref10_same.j0 QF k y0 y1 y2 y3 y4 y5 y6 y7 y8 y9 y10 y11) (salchowref10_same.j0 QG k y0 y1 y2 y3 y4 y5 y6 y7 y8 y9 y10 y11)) ∧ (∀ y0 y1 y2 y3 y4 y5 y6 y7 y8 y9 y10 y11, LeO (salchowref10_same.l0 QF k y0 y1 y2 y3 y4 y5 y6 y7 y8 y9 y10 y11) (salchowref10_same.l0 QG k y0 y1 y2 y3 y4 y5 y6 y7 y8 y9 y10 y11))
 | 0 => ⟨fun _ _ _ _ _ _ _ _ _ _ _ _ r h => by simp [salchowref10_same.j0] at h, fun _ _ _ _ _ _ _ _ _ _ _ _ r h => by simp [salchowref10_same.l0] at h⟩
 | k + 1 => by
  obtain ⟨i0, i1⟩ := same_le QF QG h k
  refine ⟨?_, ?_⟩
  ·
   intro y0 y1 y2 y3 y4 y5 y6 y7 y8 y9 y10 y11
   simp only [salchowref10_same.j0]
   repeat' first
    | exact h _ _ _ _
    | exact i0 _ _ _ _ _ _ _ _ _ _ _ _
    | exact i1 _ _ _ _ _ _ _ _ _ _ _ _
    | exact LeO.refl _
    | exact LeO.none _
    | refine LeO.ite ?_ ?_
    | refine LeO.bind ?_ (fun _ => ?_)
  ·
   intro y0 y1 y2 y3 y4 y5 y6 y7 y8 y9 y10 y11
   simp only [salchowref10_same.l0]
   repeat' first
    | exact h _ _ _ _
    | exact i0 _ _ _ _ _ _ _ _ _ _ _ _
    | exact i1 _ _ _ _ _ _ _ _ _ _ _ _
    | exact LeO.refl _
    | exact LeO.none _
    | refine LeO.ite ?_ ?_
    | refine LeO.bind ?_ (fun _ => ?_)
theorem same_leF (QF QG : Nat → List S41 → List S41 → Bool → Option Bool) (h : ∀ k a b p, LeO (QF k a b p) (QG k a b p)) (k : Nat) (x0 : ByteArray) (x1 : List S46) (x2 : Bool) (x3 : List S41) (x4 : Int) (x5 : ByteArray) (x6 : List S46) (x7 : Bool) (x8 : List S41) (x9 : Int) (x10 : Bool) :
  LeO (salchowref10_same.f QF k x0 x1 x2 x3 x4 x5 x6 x7 x8 x9 x10) (salchowref10_same.f QG k x0 x1 x2 x3 x4 x5 x6 x7 x8 x9 x10) := by
 obtain ⟨i0, i1⟩ := same_le QF QG h k
 unfold salchowref10_same.f
 repeat' first
  | exact i0 _ _ _ _ _ _ _ _ _ _ _ _
  | exact i1 _ _ _ _ _ _ _ _ _ _ _ _
  | exact LeO.refl _
  | exact LeO.none _
  | refine LeO.ite ?_ ?_
  | refine LeO.bind ?_ (fun _ => ?_)
theorem equal_le (RF RG : Nat → ByteArray → List S46 → Bool → List S41 → Int → ByteArray → List S46 → Bool → List S41 → Int → Bool → Option Bool) (h : ∀ k x0 x1 x2 x3 x4 x5 x6 x7 x8 x9 x10, LeO (RF k x0 x1 x2 x3 x4 x5 x6 x7 x8 x9 x10) (RG k x0 x1 x2 x3 x4 x5 x6 x7 x8 x9 x10)) : ∀ k y0 y1 y2 y3, LeO (salchowref10_Equal.l0 RF k y0 y1 y2 y3) (salchowref10_Equal.l0 RG k y0 y1 y2 y3)
 | 0 => fun _ _ _ _ r h => by simp [salchowref10_Equal.l0] at h
 | k + 1 => by
  have ih := equal_le RF RG h k
  intro y0 y1 y2 y3
  simp only [salchowref10_Equal.l0]
  repeat' first
   | exact h _ _ _ _ _ _ _ _ _ _ _ _
   | exact ih _ _ _ _
   | exact LeO.refl _
   | exact LeO.none _
   | refine LeO.ite ?_ ?_
   | refine LeO.bind ?_ (fun _ => ?_)
theorem eqT_deep : ∀ (d k : Nat) (a b : List S41) (p : Bool), LeO (eqT d k a b p) (eqT (d + 1) k a b p)
 | 0, k, a, b, p => fun r h => by cases h
 | d + 1, k, a, b, p => by
  have ih := eqT_deep d
  show LeO (salchowref10_Equal.f _ k a b p) (salchowref10_Equal.f _ k a b p)
  unfold salchowref10_Equal.f
  repeat' first
   | exact equal_le _ _ (fun k x0 x1 x2 x3 x4 x5 x6 x7 x8 x9 x10 => same_leF (eqT d) (eqT (d + 1)) (fun k a b p => ih k a b p) k x0 x1 x2 x3 x4 x5 x6 x7 x8 x9 x10) k _ _ _ _
   | exact LeO.refl _
   | exact LeO.none _
   | refine LeO.ite ?_ ?_
theorem eqT_mono : ∀ (d : Nat) (a b : List S41) (p : Bool) (k : Nat), LeO (eqT d k a b p) (eqT d (k + 1) a b p)
 | 0, a, b, p, k => fun r h => by cases h
 | d + 1, a, b, p, k => salchowref10_Equal.mono _ (fun x0 x1 x2 x3 x4 x5 x6 x7 x8 x9 x10 k => salchowref10_same.mono (eqT d) (fun x0 x1 x2 k => eqT_mono d x0 x1 x2 k) x0 x1 x2 x3 x4 x5 x6 x7 x8 x9 x10 k) a b p k
def ref10_Equal.f (k : Nat) (a b : List S41) (p : Bool) : Option Bool := eqT k k a b p
theorem ref10_Equal.mono : ∀ a b p k, LeO (ref10_Equal.f k a b p) (ref10_Equal.f (k + 1) a b p) := fun a b p k r h => eqT_deep k (k + 1) a b p r (eqT_mono k a b p k r h)
theorem ref10_Equal.calls (k : Nat) (A0 : Option Addr) (c0 : Nat) (l0 : List (S41)) (A1 : Option Addr) (c1 : Nat) (l1 : List (S41)) (a2 : Bool) (r : Bool) (w : World) (hr0 : Kd.C k41 w A0 l0.length l0) (hc0 : l0.length ≤ c0) (hr1 : Kd.C k41 w A1 l1.length l1) (hc1 : l1.length ≤ c1) (h : ref10_Equal.f k l0 l1 a2 = some r) :
  Calls Tryd.prog 24 #[.slice A0 l0.length c0, .slice A1 l1.length c1, .bool a2] w fun e w' => e = .returned (.bool r) ∧ Below w.heap.size w w' := eqT_calls k k A0 c0 l0 A1 c1 l1 a2 r w hr0 hc0 hr1 hc1 h
end Go.Proofs.YtkifdadhojbohaaDoor.Pr
namespace Go.Proofs.YtkifdadhojbohaaDoor.Pr
open Go.Proofs.YtkifdadhojbohaaDoor
open Go.RowKit Go.Proofs.YtkifdadhojbohaaDoorW.PrintWords Go.Proofs.YtkifdadhojbohaaDoorW.PrintLast Go.Proofs.YtkifdadhojbohaaDoorW.PrintMore
attribute [local go_sem] max2_int min2_int max_two min_two max_three min_three max_four min_four   -- for this text's walks alone
set_option linter.unusedVariables false
set_option linter.unusedSimpArgs false
attribute [local go_sem high] eqA26
def salchowlaw10_ParserParses.f (k : Nat) (a0 : ByteArray) : Option (Bool) := (salchowlaw10_awake.f k).bind fun t277 => (if t277 = true then (if (a0.size : Int) > 1500 then (some true) else ((parser_Parse.f k a0).bind fun bt278 => ((salchowref10_Parse.f k a0).bind fun bt284 => (if (bt278.2.1 == bt284.2.1 && (bt278.2.2 == bt284.2.2)) = true then ((ref10_Equal.f k bt278.1 bt284.1 true).bind fun t290 => (some t290)) else (some false))))) else (some false))
theorem salchowlaw10_ParserParses.mono : ∀ a0 k, LeO (salchowlaw10_ParserParses.f k a0) (salchowlaw10_ParserParses.f (k + 1) a0) := by
 intro a0 k
 unfold salchowlaw10_ParserParses.f
 repeat' first
   | (with_reducible exact parser_Parse.mono _ _)
   | (with_reducible exact ref10_Equal.mono _ _ _ _)
   | (with_reducible exact salchowlaw10_awake.mono _)
   | (with_reducible exact salchowref10_Parse.mono _ _)
   | (with_reducible exact LeO.refl _)
   | (with_reducible exact LeO.none _)
   | (with_reducible refine LeO.ite ?_ ?_)
   | (with_reducible refine LeO.bind ?_ (fun _ => ?_))
   | exact parser_Parse.mono _ _
   | exact ref10_Equal.mono _ _ _ _
   | exact salchowlaw10_awake.mono _
   | exact salchowref10_Parse.mono _ _
   | exact LeO.none _
   | refine LeO.ite ?_ ?_
   | refine LeO.bind ?_ (fun _ => ?_)
theorem salchowlaw10_ParserParses.calls (k : Nat) (a0 : ByteArray) (r : Bool) (w : World) (h : salchowlaw10_ParserParses.f k a0 = some r) :
  Calls Tryd.prog 3 #[.string a0] w fun e w' => e = .returned (.bool r) ∧ Below w.heap.size w w' := by
 have hu26 := Tryd.underlying26; have HB := Aside0.mk (Below.refl w.heap.size w); have H : ((salchowlaw10_awake.f k).bind fun t277 => (if t277 = true then (if (a0.size : Int) > 1500 then (some true) else ((parser_Parse.f k a0).bind fun bt278 => ((salchowref10_Parse.f k a0).bind fun bt284 => (if (bt278.2.1 == bt284.2.1 && (bt278.2.2 == bt284.2.2)) = true then ((ref10_Equal.f k bt278.1 bt284.1 true).bind fun t290 => (some t290)) else (some false))))) else (some false))) = some r := h; clear h; replace H := bn_ H; obtain ⟨t277, A2, H⟩ := H; (try dsimp only at H); replace H := (sb_ H).symm; obtain ⟨rfl, H⟩ | ⟨rfl, H⟩ := H
 ·
  obtain rfl := Option.some.inj H
  go_enter Tryd.func3, Tryd.ntmps3
  go_wp2_with (first | ((with_reducible refine gate_callee (f := 21) rfl ?_); refine gk_ (some 7) Tryd.func21 (salchowlaw10_awake.calls k  false _ A2.out) ?_; rintro e w31 ⟨rfl, hb⟩; refine ⟨_, rfl, ?_⟩; refine cut1_ (below_step (bl_ HB.out) hb) ?_; clear hb HB; intro HB))
  go_ret
  exact ⟨er_, bl_ HB.out⟩
 replace H := sp_ H; obtain ⟨c4, H⟩ | ⟨c4, H⟩ := H
 ·
  have c4b0 := decide_eq_true c4; have c4b1 : decide (1500 < a0.size) = true := decide_eq_true (by omega); clear c4; obtain rfl := Option.some.inj H
  go_enter Tryd.func3, Tryd.ntmps3
  go_wp2_with (first | ((with_reducible refine gate_callee (f := 21) rfl ?_); refine gk_ (some 7) Tryd.func21 (salchowlaw10_awake.calls k  true _ A2.out) ?_; rintro e w5 ⟨rfl, hb⟩; refine ⟨_, rfl, ?_⟩; refine cut1_ (below_step (bl_ HB.out) hb) ?_; clear hb HB; intro HB))
  go_ret
  exact ⟨er_, bl_ HB.out⟩
 have c4b0 := decide_eq_false c4; have c4b1 : decide (1500 < a0.size) = false := decide_eq_false (by omega); clear c4; replace H := bn_ H; obtain ⟨⟨t278, t281, t282⟩, A6, H⟩ := H; (try dsimp only at H); replace H := bn_ H; obtain ⟨⟨t284, t287, t288⟩, A7, H⟩ := H; (try dsimp only at H); replace H := (sp_ H).symm; obtain ⟨c8, H⟩ | ⟨c8, H⟩ := H
 ·
  have c8b0 : (t281 == t287 && (t282 == t288)) = false := by simpa using c8
  (try (have c8b1 : decide (t281 = t287 && (t282 == t288)) = false := by simpa using c8)); (try (have c8b2 : (t281 == t287 && (t282 == t288)) = false := by simpa using c8)); (try (have c8b3 : ¬ (t281 = t287 && (t282 == t288)) := by simpa using c8)); clear c8; obtain rfl := Option.some.inj H
  go_enter Tryd.func3, Tryd.ntmps3
  go_wp2_with (first | ((with_reducible refine gate_callee (f := 21) rfl ?_); refine gk_ (some 7) Tryd.func21 (salchowlaw10_awake.calls k  true _ A2.out) ?_; rintro e w22 ⟨rfl, hb⟩; refine ⟨_, rfl, ?_⟩; refine cut1_ (below_step (bl_ HB.out) hb) ?_; clear hb HB; intro HB) | ((with_reducible refine gate_callee (f := 22) rfl ?_); refine gk_ (some 14) Tryd.func22 (parser_Parse.calls k a0 t278 t281 t282 _ A6.out) ?_; rintro e w23 ⟨v279, rfl, ho0, hb⟩; refine ⟨_, rfl, ?_⟩; refine cut2_ (Kd.R_lower ho0 (below_size (bl_ HB.out))) (below_step (bl_ HB.out) hb) ?_; clear hb HB; intro HO280 HB; (try clear ho0)) | ((with_reducible refine gate_dst (N := 4) rfl ?_); refine bx_ (N := 4) (cs := #[.int .i64 0, .int .i64 0]) (t := 26) ?_; intro gb283 hg w24 hbox hb; refine cut5_ (Kd.R_below (rR_ HO280.out) hb) (below_step (bl_ HB.out) hb) (hbox) (bz_ (w := w) hg (bl_ HB.out)) (bz_ (w := w) hg (bl_ HB.out)) ?_; clear HO280 HB; intro HO280 HB BK283 GW283 GE283; clear hb hbox hg; obtain ⟨hcz25_0, hcz25_1, hfz25_0, hfz25_1⟩ := cq2_ BK283.out) | ((with_reducible refine gate_callee (f := 23) rfl ?_); refine gk_ (some 19) Tryd.func23 (salchowref10_Parse.calls k a0 t284 t287 t288 _ A7.out) ?_; rintro e w26 ⟨v285, rfl, ho0, hb⟩; refine ⟨_, rfl, ?_⟩; refine cut4_ (Kd.R_elder' (rR_ ((Kd.R_mono (rf2_ gb283 (Kd.R_types HO280.out BK283.out (by decide))) (fun _ h_ => h_.1)))) (Kd.R_base ho0) hb) (Kd.R_lower (Kd.R_new' ho0 (Kd.R_lt (rR_ ((Kd.R_mono (rf2_ gb283 (Kd.R_types HO280.out BK283.out (by decide))) (fun _ h_ => h_.1)))))) (below_size (bl1_ HB.out GE283.out))) (blk_below (g := gb283) (o := .cells #[.int .i64 t281, .int .i64 t282] 26 (0, 0)) (put2_ (bk_ BK283.out)) hb) (below_step (bl1_ HB.out GE283.out) hb) ?_; clear hb HO280 BK283 HB; intro HO280 HO286 BK283 HB; (try clear ho0)) | ((with_reducible refine gate_dst (N := 6) rfl ?_); refine bx_ (N := 6) (cs := #[.int .i64 0, .int .i64 0]) (t := 26) ?_; intro gb289 hg w27 hbox hb; refine cut9_ (Kd.R_below (rR_ HO280.out) hb) (Kd.R_below (rR_ HO286.out) hb) (bb_ BK283.out hb) (below_step (bl1_ HB.out GE283.out) hb) (hbox) (bz_ (w := w) hg (bl1_ HB.out GE283.out)) (bz_ (w := w) hg (bl1_ HB.out GE283.out)) (nl_ hg BK283.out) (ng_ hg BK283.out) ?_; clear HO280 HO286 BK283 HB; intro HO280 HO286 BK283 HB BK289 GW289 GE289 NB283_289 NB289_283; clear hb hbox hg; have hnb28 := NB289_283.out; have hnc28 := NB283_289.out; obtain ⟨hcz29_0, hcz29_1, hfz29_0, hfz29_1⟩ := cq2_ BK289.out; obtain ⟨hcz30_0, hcz30_1, hfz30_0, hfz30_1⟩ := cq2_ BK283.out))
  go_ret
  exact ⟨er_, bl2_ HB.out GE283.out GE289.out⟩
 have c8b0 : (t281 == t287 && (t282 == t288)) = true := c8; (try (have c8b1 : decide (t281 = t287 && (t282 == t288)) = true := by simpa using c8)); (try (have c8b2 : (t281 == t287 && (t282 == t288)) = true := by simpa using c8)); clear c8; replace H := bn_ H; obtain ⟨t290, A9, H⟩ := H; (try dsimp only at H); obtain rfl := Option.some.inj H
 go_enter Tryd.func3, Tryd.ntmps3
 go_wp2_with (first | ((with_reducible refine gate_callee (f := 21) rfl ?_); refine gk_ (some 7) Tryd.func21 (salchowlaw10_awake.calls k  true _ A2.out) ?_; rintro e w10 ⟨rfl, hb⟩; refine ⟨_, rfl, ?_⟩; refine cut1_ (below_step (bl_ HB.out) hb) ?_; clear hb HB; intro HB) | ((with_reducible refine gate_callee (f := 22) rfl ?_); refine gk_ (some 14) Tryd.func22 (parser_Parse.calls k a0 t278 t281 t282 _ A6.out) ?_; rintro e w11 ⟨v279, rfl, ho0, hb⟩; refine ⟨_, rfl, ?_⟩; refine cut2_ (Kd.R_lower ho0 (below_size (bl_ HB.out))) (below_step (bl_ HB.out) hb) ?_; clear hb HB; intro HO280 HB; (try clear ho0)) | ((with_reducible refine gate_dst (N := 4) rfl ?_); refine bx_ (N := 4) (cs := #[.int .i64 0, .int .i64 0]) (t := 26) ?_; intro gb283 hg w12 hbox hb; refine cut5_ (Kd.R_below (rR_ HO280.out) hb) (below_step (bl_ HB.out) hb) (hbox) (bz_ (w := w) hg (bl_ HB.out)) (bz_ (w := w) hg (bl_ HB.out)) ?_; clear HO280 HB; intro HO280 HB BK283 GW283 GE283; clear hb hbox hg; obtain ⟨hcz13_0, hcz13_1, hfz13_0, hfz13_1⟩ := cq2_ BK283.out) | ((with_reducible refine gate_callee (f := 23) rfl ?_); refine gk_ (some 19) Tryd.func23 (salchowref10_Parse.calls k a0 t284 t287 t288 _ A7.out) ?_; rintro e w14 ⟨v285, rfl, ho0, hb⟩; refine ⟨_, rfl, ?_⟩; refine cut4_ (Kd.R_elder' (rR_ ((Kd.R_mono (rf2_ gb283 (Kd.R_types HO280.out BK283.out (by decide))) (fun _ h_ => h_.1)))) (Kd.R_base ho0) hb) (Kd.R_lower (Kd.R_new' ho0 (Kd.R_lt (rR_ ((Kd.R_mono (rf2_ gb283 (Kd.R_types HO280.out BK283.out (by decide))) (fun _ h_ => h_.1)))))) (below_size (bl1_ HB.out GE283.out))) (blk_below (g := gb283) (o := .cells #[.int .i64 t281, .int .i64 t282] 26 (0, 0)) (put2_ (bk_ BK283.out)) hb) (below_step (bl1_ HB.out GE283.out) hb) ?_; clear hb HO280 BK283 HB; intro HO280 HO286 BK283 HB; (try clear ho0)) | ((with_reducible refine gate_dst (N := 6) rfl ?_); refine bx_ (N := 6) (cs := #[.int .i64 0, .int .i64 0]) (t := 26) ?_; intro gb289 hg w15 hbox hb; refine cut9_ (Kd.R_below (rR_ HO280.out) hb) (Kd.R_below (rR_ HO286.out) hb) (bb_ BK283.out hb) (below_step (bl1_ HB.out GE283.out) hb) (hbox) (bz_ (w := w) hg (bl1_ HB.out GE283.out)) (bz_ (w := w) hg (bl1_ HB.out GE283.out)) (nl_ hg BK283.out) (ng_ hg BK283.out) ?_; clear HO280 HO286 BK283 HB; intro HO280 HO286 BK283 HB BK289 GW289 GE289 NB283_289 NB289_283; clear hb hbox hg; have hnb16 := NB289_283.out; have hnc16 := NB283_289.out; obtain ⟨hcz17_0, hcz17_1, hfz17_0, hfz17_1⟩ := cq2_ BK289.out; obtain ⟨hcz18_0, hcz18_1, hfz18_0, hfz18_1⟩ := cq2_ BK283.out; obtain ⟨Ao19, co19, eo19⟩ := Kd.R_slice HO280.out; subst eo19; obtain ⟨Ao20, co20, eo20⟩ := Kd.R_slice HO286.out; subst eo20) | (go_at_call 24; (with_reducible refine (ref10_Equal.calls k _ _ t278 _ _ t284 true t290 _ ?side1 ?side2 ?side3 ?side4 A9.out).mono ?_); (case side1 => refine (Kd.R_reads' (e := 41) (base := w.heap.size) (ok := fun k_ => (True ∧ some k_ ≠ (.slice Ao20 t284.length co20 : Value).ownBlock)) (n := t278.length) (c := co19) ?_).2.2; exact (rR_ ((Kd.R_mono (rf2_ gb289 (Kd.R_types HO280.out BK289.out (by decide))) (fun _ h_ => h_.1))))); (case side2 => exact (Kd.R_reads' HO280.out).2.1); (case side3 => refine (Kd.R_reads' (e := 41) (base := w.heap.size) (ok := fun k_ => (True ∧ some k_ ≠ (.slice Ao19 t278.length co19 : Value).ownBlock)) (n := t284.length) (c := co20) ?_).2.2; exact (rR_ ((Kd.R_mono (rf2_ gb289 (Kd.R_types HO286.out BK289.out (by decide))) (fun _ h_ => h_.1))))); (case side4 => exact (Kd.R_reads' HO286.out).2.1); rintro e w21 ⟨rfl, hb⟩; refine cut5_ (Kd.R_below (rR_ ((Kd.R_mono (rf2_ gb289 (Kd.R_types HO280.out BK289.out (by decide))) (fun _ h_ => h_.1)))) hb) (Kd.R_below (rR_ ((Kd.R_mono (rf2_ gb289 (Kd.R_types HO286.out BK289.out (by decide))) (fun _ h_ => h_.1)))) hb) (blk_below (g := gb283) (o := .cells #[.int .i64 t281, .int .i64 t282] 26 (0, 0)) (far2_ (bk_ BK283.out) NB283_289.out) hb) (blk_below (g := gb289) (o := .cells #[.int .i64 t287, .int .i64 t288] 26 (0, 0)) (put2_ (bk_ BK289.out)) hb) (below_step (bl2_ HB.out GE283.out GE289.out) hb) ?_; clear HO280 HO286 BK283 BK289 HB; intro HO280 HO286 BK283 BK289 HB; (try clear hb); (try clear hb2); (try clear hk); (try clear hi)))
 go_ret
 exact ⟨er_, bl2_ HB.out GE283.out GE289.out⟩
def salchowlaw10_ParserParses.Pure : Prop := ∀ (a0 : ByteArray), a0.size ≤ 140737488351232 → ∃ k, salchowlaw10_ParserParses.f k a0 = some true
theorem salchowlaw10_ParserParses.walk (P : salchowlaw10_ParserParses.Pure) (a0 : ByteArray) (w : World) (w0 : a0.size ≤ 140737488351232) :
  Calls Tryd.prog 3 #[.string a0] w fun e w' => e = .returned (.bool true) ∧ Below w.heap.size w w' := by
 obtain ⟨k, h⟩ := P a0 w0
 refine (salchowlaw10_ParserParses.calls k a0 true w h).mono ?_
 rintro e w' ⟨rfl, hd⟩
 exact ⟨rfl, hd⟩
end Go.Proofs.YtkifdadhojbohaaDoor.Pr
namespace Go.Proofs.YtkifdadhojbohaaDoor.Pu
open Go.RowKit Go.Proofs.YtkifdadhojbohaaDoor Go.Proofs.YtkifdadhojbohaaDoor.Pr Go.Proofs.YtkifdadhojbohaaDoorW.PrintWords Go.Proofs.YtkifdadhojbohaaDoorW.PrintLast Go.Proofs.YtkifdadhojbohaaDoorW.PrintMore
theorem same_atoms (QF : Nat → List S41 → List S41 → Bool → Option Bool) (p : Bool) (a b : List S46) (h : a.map (keyT p) = b.map (keyT p)) (ha : a.length ≤ 1000000) (x0 : ByteArray) (x2 : Bool) (ks js : List S41) (x4 : Int) (y0 : ByteArray) (y2 : Bool) (y4 : Int)
    (hQ : Ev (fun k => QF k ks js p) true) : ∀ (d i : Nat), i ≤ a.length → a.length - i = d → Ev (fun k => salchowref10_same.l0 QF k p (i : Int) x0 a x2 ks x4 y0 b y2 js y4) true := by
  have hl : a.length = b.length := by simpa using congrArg List.length h
  intro d
  induction d with
  | zero =>
    intro i hi hd
    refine Ev.succ ?_
    simp only [salchowref10_same.l0]
    exact Ev.ifn (by omega) (Ev.bind hQ (Ev.now _))
  | succ d ih =>
    intro i hi hd
    refine Ev.succ ?_
    obtain ⟨k0, k1, k2, k3⟩ := key_f (key_rd p h (i : Int))
    simp only [salchowref10_same.l0]
    refine Ev.ifp (by omega) (Ev.ifp natO (Ev.ifp (by omega) (Ev.ifp k0 (Ev.ifp (by rw [k1]) (Ev.ifp k2 ?_)))))
    rw [wrap_nat i (by omega)]
    by_cases hp : p = true
    · exact Ev.ifp hp (Ev.ifp (k3 hp) (ih (i + 1) (by omega) (by omega)))
    · exact Ev.ifn hp (ih (i + 1) (by omega) (by omega))
theorem same_ev (QF : Nat → List S41 → List S41 → Bool → Option Bool) (p : Bool) (c d : S41) (h0 : c.f0 = d.f0) (h2 : c.f2 = d.f2) (h1 : c.f1.map (keyT p) = d.f1.map (keyT p)) (h4 : p = true → c.f4 = d.f4) (hl : c.f1.length ≤ 1000000)
    (hQ : Ev (fun k => QF k c.f3 d.f3 p) true) : Ev (fun k => salchowref10_same.f QF k c.f0 c.f1 c.f2 c.f3 c.f4 d.f0 d.f1 d.f2 d.f3 d.f4 p) true := by
  have hn : c.f1.length = d.f1.length := by simpa using congrArg List.length h1
  have hj : Ev (fun k => salchowref10_same.j0 QF k p false c.f0 c.f1 c.f2 c.f3 c.f4 d.f0 d.f1 d.f2 d.f3 d.f4) true := by
    refine Ev.succ ?_
    simp only [salchowref10_same.j0]
    exact Ev.ifn (by simp) (same_atoms QF p c.f1 d.f1 h1 hl _ _ _ _ _ _ _ _ hQ c.f1.length 0 (by omega) (by omega))
  simp only [salchowref10_same.f]
  refine Ev.ifp (by rw [h0]) (Ev.ifn (by simp [h2]) (Ev.ifp (by omega) ?_))
  by_cases hp : p = true
  · have e : (c.f4 != d.f4) = false := by rw [h4 hp]; simp
    rw [e]
    exact Ev.ifp hp hj
  · exact Ev.ifn hp hj
abbrev eqR (d : Nat) : Nat → ByteArray → List S46 → Bool → List S41 → Int → ByteArray → List S46 → Bool → List S41 → Int → Bool → Option Bool := fun j x0 x1 x2 x3 x4 x5 x6 x7 x8 x9 x10 => salchowref10_same.f (eqT d) j x0 x1 x2 x3 x4 x5 x6 x7 x8 x9 x10
theorem equal_loop {p : Bool} {a b : List S41} (h : SmL p a b) : ∃ D, ∀ d, D ≤ d → ∀ (A B : List S41) (i : Nat), A.drop i = a → B.drop i = b → A.length = B.length → A.length ≤ 1000000 → i ≤ A.length → Ev (fun k => salchowref10_Equal.l0 (eqR d) k A B p (i : Int)) true := by
  induction h with
  | nil =>
    refine ⟨0, fun d _ A B i hA hB hl hn hi => ?_⟩
    have : A.length ≤ i := by
      have := congrArg List.length hA
      rw [List.length_drop] at this
      simp at this; omega
    refine Ev.succ ?_
    simp only [salchowref10_Equal.l0]
    exact Ev.ifn (by omega) (Ev.now _)
  | cons c d a b h0 h2 h1 h4 hl1 hl2 hk hr ihk ihr =>
    obtain ⟨D1, g1⟩ := ihk
    obtain ⟨D2, g2⟩ := ihr
    refine ⟨max (D1 + 1) D2, fun e he A B i hA hB hl hn hi => ?_⟩
    obtain ⟨a1, a2, a3⟩ := rd41_at hA
    obtain ⟨b1, b2, b3⟩ := rd41_at hB
    obtain ⟨e', rfl⟩ : ∃ e', e = e' + 1 := ⟨e - 1, by omega⟩
    refine Ev.succ ?_
    simp only [salchowref10_Equal.l0, a2, b2]
    refine Ev.ifp (by omega) (Ev.ifp natO (Ev.ifp (by omega) (Ev.bind (same_ev (eqT (e' + 1)) p c d h0 h2 h1 h4 hl1 ?_) (Ev.ifp rfl ?_))))
    · have hk' := hk.length
      have := g1 e' (by omega) c.f3 d.f3 0 rfl rfl hk'.1 hk'.2 (by omega)
      simp only [eqT, salchowref10_Equal.f]
      exact Ev.ifp (by omega) this
    · rw [wrap_nat i (by omega)]
      exact g2 (e' + 1) (by omega) A B (i + 1) a3 b3 hl hn (by omega)
theorem Equal_f {p : Bool} {a b : List S41} (h : SmL p a b) : Ev (fun k => ref10_Equal.f k a b p) true := by
  obtain ⟨D, g⟩ := equal_loop h
  have hl := h.length
  obtain ⟨K, hK⟩ := g D (by omega) a b 0 rfl rfl hl.1 hl.2 (by omega)
  refine ⟨max K (D + 1), fun k hk => ?_⟩
  have h1 : eqT (D + 1) k a b p = some true := by
    simp only [eqT, salchowref10_Equal.f]
    rw [if_pos (by omega)]
    exact hK k (by omega)
  have hdeep : ∀ n, eqT (D + 1 + n) k a b p = some true := by
    intro n
    induction n with
    | zero => exact h1
    | succ n ih => exact eqT_deep (D + 1 + n) k a b p _ ih
  have := hdeep (k - (D + 1))
  rwa [show D + 1 + (k - (D + 1)) = k by omega] at this
theorem parserParses : salchowlaw10_ParserParses.Pure := by
  intro s _
  apply Ev.rounds
  unfold salchowlaw10_ParserParses.f
  refine Ev.bind awake10_f (Ev.ifp rfl ?_)
  by_cases hs : (s.size : Int) > 1500
  · exact Ev.ifp hs (Ev.now _)
  · obtain ⟨y, hy⟩ := PA.ex s
    exact Ev.ifn hs (Ev.bind (Parse_f s (by omega) hy) (Ev.bind (rParse_f s (by omega) hy) (Ev.ifp (by simp) (Ev.bind (Equal_f (hy.self (by omega) true)) (Ev.now _)))))
end Go.Proofs.YtkifdadhojbohaaDoor.Pu
namespace Go.Proofs.YtkifdadhojbohaaDoor.parserParses
open Go.ChangeShapes Go.WideShapes Go.ChangeAt Go.RowKit Rk
open Go.ChangeMaps (open_string shut_string)
theorem c09 : (Rows.parserParsesRow.inPlace == Tryd.prog.inPlace 3) = true := by kernel_rfl
theorem c10 : (Rows.parserParsesRow.unfollowed == Tryd.prog.unfollowed 3) = true := by kernel_rfl
theorem c11 : (Rows.parserParsesRow.recurses == Tryd.prog.recurses 3) = true := by kernel_rfl
theorem c12 : (Rows.parserParsesRow.named == Tryd.prog.varsNamed 3) = true := by kernel_rfl
theorem facts : joinedFacts Tryd.prog 3 Tryd.f3 Rows.parserParsesSpec Rows.parserParsesRow = true :=
  facts_of _ _ _ _ _ (by kernel_rfl) out_ rowed_ (by kernel_rfl) (by kernel_rfl) rfl (by kernel_rfl) rfl (by kernel_rfl) c09 c10 c11 c12 (by kernel_rfl) (by kernel_rfl) (by kernel_rfl) (by kernel_rfl) (by kernel_rfl)
    (by kernel_rfl) (by kernel_rfl) (by kernel_rfl) (by kernel_rfl) (by kernel_rfl) (by kernel_rfl) heard_ enter_ (by kernel_rfl) (by kernel_rfl) (by kernel_rfl) (by kernel_rfl) (by kernel_rfl) (by kernel_rfl)
theorem goes : false = Rows.parserParsesRow.goesBy Tryd.prog := by kernel_rfl
theorem lifted (os : Os) (started : os.Started) (H : Type) (enc : TypeId × Value → H) :
    ReturnsInHanded {} Tryd.checked os 3 .any (fun w args => (Rows.parserParsesSpec.pre enc Tryd.prog Tryd.f3 [] false w args ∧ laidMetH Tryd.prog laidA w) ∧ sizedMet enc Tryd.prog Tryd.f3 (OpenSpec.ofChange Rows.parserParsesSpec) false w args)
      (Rows.parserParsesSpec.post enc Tryd.prog Tryd.f3 false true false false) := by
  refine returnsInHanded_of_change_and (C := Tryd.checked) (X := fun w _ => laidMetH Tryd.prog laidA w) (fun _ _ _ hh h => h.of_heap hh) own started (by kernel_rfl) Tryd.func3
    (ChangeSpec.witness_shaped (enc := enc) (C := Tryd.checked) (os := os) (X := fun w _ => laidMetH Tryd.prog laidA w) false (wA os) #[.string ByteArray.empty] 8 (World.laidAll_os _ _ _)
      (World.shaped_of_ZipB (by kernel_rfl) (by kernel_rfl)) (by kernel_rfl) (by kernel_rfl) (by kernel_rfl) (met_A os _)) ?_
  intro W base args ds gs before hval0 hW _ hsz0 hL _
  have hsz : (DataW.weightsEach Tryd.prog (Tryd.f3.params.toList ++ Rows.parserParsesSpec.plain.varTypes Tryd.prog) (ds ++ gs)).all (· ≤ reachBytes) = true := hsz0
  have hval : ∀ (j : Nat) t v, Tryd.f3.params[j]? = some t → args[j]? = some v → Value.okWide Tryd.prog W .any base t v := hval0
  have hW' := hW
  obtain ⟨p, q, hA0, hV, rfl, _, _⟩ := hW
  have hA : DataW.TrodAll enc Tryd.prog W 0 (fun _ => true) true Tryd.f3.params.toList args.toList ds p := hA0
  rw [Tryd.params3] at hA hval hsz
  obtain ⟨v0, vs0, d0, ds0, p0, q0, hargs, rfl, rfl, h0, r0⟩ := trodAll_cons hA
  obtain ⟨rfl, rfl, rfl⟩ := trodAll_nil r0
  obtain rfl : args = #[v0] := by cases args; simp_all
  obtain ⟨rfl, rfl⟩ := trodVars_none hV
  obtain ⟨a0, rfl, rfl, rfl, y0⟩ := open_string Tryd.underlying9 (hval 0 9 v0 rfl rfl) h0
  have w0 : a0.size ≤ 140737488351232 := by
    have z := sized_string hsz (j := 0) (t := 9) rfl rfl
    rw [Array.length_toList] at z
    exact z
  clear hA0 hval0 hsz0 hsz
  refine (Pr.salchowlaw10_ParserParses.walk Pu.parserParses a0 W  w0).mono fun e W' ⟨he, bel⟩ => ?_
  subst he
  exact ⟨_, rfl, _, _, _, [], _, [], hW', trodAll_mk1 (shut_bool Tryd.underlying4 _), (trodAll_cons_mk (shut_string Tryd.underlying9 y0) trodAll_mk0), rfl, bel.frame _, fun h => by cases h⟩
theorem over : Rows.parserParsesRow.holds Tryd.pinned (OpenSpec.ofChange Rows.parserParsesSpec) :=
  OpenClaim.holds_of_wide 3 Tryd.f3 rfl rfl rfl rfl rfl rfl rfl ⟨rfl, rfl, rfl, rfl, rfl⟩ rfl rfl rfl rfl rfl (by kernel_rfl) Tryd.func3 facts
    (of_decide_eq_true (by kernel_rfl)) (by unfold Func.isWrapper; first | (rw [if_pos (by decide +kernel)]; kernel_rfl) | (rw [if_neg (by decide +kernel)]; exact ⟨rfl, rfl⟩))
    (fun os started H enc _ => lifted os started H enc)
theorem card : Rows.ParserParsesCardSaid :=
  Claim7.holds_tied_plain_at .later [] [.data, .data, .data, .sentinel, .sentinel] true (true, "74d2011260c70b611c86c4d3b7f5d11cc5fefff18c715f175ff3522b41f9dd0c") true
    over (fun _ h => by cases h) (by kernel_rfl) (fun _ h => by cases h) parserParses_row_tie rfl ⟨rfl, rfl⟩ mainIs_ rfl
    (fun f fn hf hfn => by
      obtain rfl : f = 3 := Option.some.inj ((show Tryd.prog.funcNamed "salchow/salchowlaw10.ParserParses" = some 3 by kernel_rfl).symm.trans hf) |>.symm
      obtain rfl : fn = Tryd.f3 := (Option.some.inj (Tryd.func3.symm.trans hfn)).symm
      exact ⟨looks_, fun j t ht => by
        rw [Tryd.params3] at ht
        have hm : t ∈ [9] := by simpa using Array.mem_of_getElem? ht
        have hall : ([9].all fun u => !Tryd.prog.wantsStandIn u) = true := by kernel_rfl
        exact (show Tryd.prog.wantsStandIn t = false by simpa using List.all_eq_true.1 hall t hm)⟩)
    goes
#print axioms card
end Go.Proofs.YtkifdadhojbohaaDoor.parserParses
