/- Joined out of the texts of this proof that bear the names PrE2 PrF28 PrF4 PwFp PwIb RowParserPossible: what each shows stands over it there. -/
import Derived.Test.YtkifdadhojbohaaDoorXk1
import Derived.Test.YtkifdadhojbohaaDoorXg1
import Derived.Test.YtkifdadhojbohaaDoorXo1
import Derived.Test.YtkifdadhojbohaaDoorXc1
import Derived.Test.YtkifdadhojbohaaDoorXx1
import Derived.Test.YtkifdadhojbohaaDoorXh1
import Derived.Test.YtkifdadhojbohaaDoorXy1
import Derived.Test.YtkifdadhojbohaaDoorCards
import Derived.Test.YtkifdadhojbohaaDoorTie
import Derived.WalkKit
import Derived.OpenShut
import Derived.ShutString
import Derived.ChangeOld
import Derived.SizedLaws
import Derived.SevenTiedAt
import Derived.Handed
import Derived.LaidLaws
set_option linter.unusedVariables false
set_option linter.unusedSimpArgs false
namespace Go.Proofs.YtkifdadhojbohaaDoor.Pr
open Go.Proofs.YtkifdadhojbohaaDoor
open Go.RowKit Go.Proofs.YtkifdadhojbohaaDoorW.PrintWords Go.Proofs.YtkifdadhojbohaaDoorW.PrintLast Go.Proofs.YtkifdadhojbohaaDoorW.PrintMore
attribute [local go_sem] max2_int min2_int max_two min_two max_three min_three max_four min_four   -- for this text's walks alone
set_option linter.unusedVariables false
set_option linter.unusedSimpArgs false
theorem eqA46 (d : Nat) (w : World) (x0 y0 : Int) (x1 y1 : ByteArray) (x2 y2 : Int) (x3 y3 : Int) :
  (Op.equalIn (d + 2) 46 (.agg #[.int .i64 x0, .string x1, .int .i64 x2, .int .i64 x3]) (.agg #[.int .i64 y0, .string y1, .int .i64 y2, .int .i64 y3])).run Tryd.prog w = .ok (x0 == y0 && (x1.toList == y1.toList && (x2 == y2 && (x3 == y3)))) w := by
 refine eqA_of Tryd.underlying46 (by kernel_rfl) ?_
 refine eqf_cons (by rfl) (by go_simp; rfl) (by go_simp; rfl) (by go_simp) ?_
 refine eqf_cons (by rfl) (by go_simp; rfl) (by go_simp; rfl) (by go_simp) ?_
 refine eqf_cons (by rfl) (by go_simp; rfl) (by go_simp; rfl) (by go_simp) ?_
 exact eqf_last (by rfl) (by go_simp; rfl) (by go_simp; rfl) (by go_simp)
end Go.Proofs.YtkifdadhojbohaaDoor.Pr
namespace Go.Proofs.YtkifdadhojbohaaDoor.Pr
open Go.Proofs.YtkifdadhojbohaaDoor
open Go.RowKit Go.Proofs.YtkifdadhojbohaaDoorW.PrintWords Go.Proofs.YtkifdadhojbohaaDoorW.PrintLast Go.Proofs.YtkifdadhojbohaaDoorW.PrintMore
attribute [local go_sem] max2_int min2_int max_two min_two max_three min_three max_four min_four   -- for this text's walks alone
set_option linter.unusedVariables false
set_option linter.unusedSimpArgs false
attribute [local go_sem high] eqA46
/-! ### salchowlaw10_placed: function 28 -/
mutual
def salchowlaw10_placed.l0 : Nat → List (S41) → List (S46) → Int → Int → Option (Int)
 | 0, _, _, _, _ => none
 | k + 1, x0, x1, x5, x6 => if x6 < (x0.length : Int) then (if 0 ≤ x6 then (if (wrap64 ((wrap64 (x5 + (((rd_T41 x0 x6).f1).length : Int))) + 1)) ≥ (x1.length : Int) then (salchowlaw10_placed.j1 k x0 x1 x5 x6 true ((rd_T41 x0 x6).f0) ((rd_T41 x0 x6).f1) ((rd_T41 x0 x6).f2) ((rd_T41 x0 x6).f3) ((rd_T41 x0 x6).f4)) else (if 0 ≤ x5 then (if x5 < (x1.length : Int) then (if ((rd_T46 x1 x5).f3) = ((rd_T41 x0 x6).f4) then (salchowlaw10_placed.j1 k x0 x1 x5 x6 (((rd_T46 x1 x5).f1).toList != ((rd_T41 x0 x6).f0).toList) ((rd_T41 x0 x6).f0) ((rd_T41 x0 x6).f1) ((rd_T41 x0 x6).f2) ((rd_T41 x0 x6).f3) ((rd_T41 x0 x6).f4)) else (salchowlaw10_placed.j1 k x0 x1 x5 x6 true ((rd_T41 x0 x6).f0) ((rd_T41 x0 x6).f1) ((rd_T41 x0 x6).f2) ((rd_T41 x0 x6).f3) ((rd_T41 x0 x6).f4))) else (none)) else (none))) else (none)) else (some x5)
def salchowlaw10_placed.j1 : Nat → List (S41) → List (S46) → Int → Int → Bool → ByteArray → List (S46) → Bool → List (S41) → Int → Option (Int)
 | 0, _, _, _, _, _, _, _, _, _, _ => none
 | k + 1, x0, x1, x5, x6, x48, x367000, x367001, x367002, x367003, x367004 => if x48 = true then (none) else (salchowlaw10_placed.l1 k x0 x1 x5 x6 0 x367000 x367001 x367002 x367003 x367004)
def salchowlaw10_placed.l1 : Nat → List (S41) → List (S46) → Int → Int → Int → ByteArray → List (S46) → Bool → List (S41) → Int → Option (Int)
 | 0, _, _, _, _, _, _, _, _, _, _ => none
 | k + 1, x0, x1, x5, x6, x8, x367000, x367001, x367002, x367003, x367004 => if x8 < (x367001.length : Int) then (if 0 ≤ (wrap64 ((wrap64 (x5 + 1)) + x8)) then (if (wrap64 ((wrap64 (x5 + 1)) + x8)) < (x1.length : Int) then (if 0 ≤ x8 then (if (!(((rd_T46 x1 (wrap64 ((wrap64 (x5 + 1)) + x8))).f0) == ((rd_T46 x367001 x8).f0)) || (!((((rd_T46 x1 (wrap64 ((wrap64 (x5 + 1)) + x8))).f1).toList) == (((rd_T46 x367001 x8).f1).toList)) || (!(((rd_T46 x1 (wrap64 ((wrap64 (x5 + 1)) + x8))).f2) == ((rd_T46 x367001 x8).f2)) || (!(((rd_T46 x1 (wrap64 ((wrap64 (x5 + 1)) + x8))).f3) == ((rd_T46 x367001 x8).f3)))))) = true then (none) else (salchowlaw10_placed.l1 k x0 x1 x5 x6 (wrap64 (x8 + 1)) x367000 x367001 x367002 x367003 x367004)) else (none)) else (none)) else (none)) else (if x367002 = true then (if 0 ≤ (wrap64 (x5 + (wrap64 ((x367001.length : Int) + 2)))) then (if (wrap64 (x5 + (wrap64 ((x367001.length : Int) + 2)))) ≤ (x1.length : Int) then ((salchowlaw10_placed.f k x367003 (x1.drop ((wrap64 (x5 + (wrap64 ((x367001.length : Int) + 2)))) : Int).toNat)).bind fun t375 => (if t375 < 0 then (none) else (if (wrap64 ((wrap64 (x5 + (wrap64 ((x367001.length : Int) + 2)))) + (wrap64 (t375 + 1)))) > (x1.length : Int) then (none) else (salchowlaw10_placed.l0 k x0 x1 (wrap64 ((wrap64 (x5 + (wrap64 ((x367001.length : Int) + 2)))) + (wrap64 (t375 + 1)))) (wrap64 (x6 + 1)))))) else (none)) else (none)) else (if (wrap64 (x5 + (wrap64 ((x367001.length : Int) + 2)))) > (x1.length : Int) then (none) else (salchowlaw10_placed.l0 k x0 x1 (wrap64 (x5 + (wrap64 ((x367001.length : Int) + 2)))) (wrap64 (x6 + 1)))))
def salchowlaw10_placed.f : Nat → List (S41) → List (S46) → Option (Int)
 | 0, _, _ => none
 | k + 1, l0, l1 => salchowlaw10_placed.l0 k l0 l1 0 0
end
theorem salchowlaw10_placed.mono_l : ∀ k, (∀ y0 y1, LeO (salchowlaw10_placed.f k y0 y1) (salchowlaw10_placed.f (k + 1) y0 y1)) ∧ (∀ y0 y1 y2 y3, LeO (salchowlaw10_placed.l0 k y0 y1 y2 y3) (salchowlaw10_placed.l0 (k + 1) y0 y1 y2 y3)) ∧ (∀ y0 y1 y2 y3 y4 y5 y6 y7 y8 y9, LeO (salchowlaw10_placed.j1 k y0 y1 y2 y3 y4 y5 y6 y7 y8 y9) (salchowlaw10_placed.j1 (k + 1) y0 y1 y2 y3 y4 y5 y6 y7 y8 y9)) ∧ (∀ y0 y1 y2 y3 y4 y5 y6 y7 y8 y9, LeO (salchowlaw10_placed.l1 k y0 y1 y2 y3 y4 y5 y6 y7 y8 y9) (salchowlaw10_placed.l1 (k + 1) y0 y1 y2 y3 y4 y5 y6 y7 y8 y9))
 | 0 => ⟨fun _ _ r h => by simp [salchowlaw10_placed.f] at h, fun _ _ _ _ r h => by simp [salchowlaw10_placed.l0] at h, fun _ _ _ _ _ _ _ _ _ _ r h => by simp [salchowlaw10_placed.j1] at h, fun _ _ _ _ _ _ _ _ _ _ r h => by simp [salchowlaw10_placed.l1] at h⟩
 | k + 1 => by
  obtain ⟨ih0, ih1, ih2, ih3⟩ := salchowlaw10_placed.mono_l k
  refine ⟨?_, ?_, ?_, ?_⟩
  ·
   intro y0 y1
   unfold salchowlaw10_placed.f
   repeat' first
   | (with_reducible exact LeO.refl _)
   | exact ih0 _ _
   | exact ih1 _ _ _ _
   | exact ih2 _ _ _ _ _ _ _ _ _ _
   | exact ih3 _ _ _ _ _ _ _ _ _ _
   | exact LeO.none _
   | refine LeO.ite ?_ ?_
   | refine LeO.bind ?_ (fun _ => ?_)
  ·
   intro y0 y1 y2 y3
   unfold salchowlaw10_placed.l0
   repeat' first
   | (with_reducible exact LeO.refl _)
   | exact ih0 _ _
   | exact ih1 _ _ _ _
   | exact ih2 _ _ _ _ _ _ _ _ _ _
   | exact ih3 _ _ _ _ _ _ _ _ _ _
   | exact LeO.none _
   | refine LeO.ite ?_ ?_
   | refine LeO.bind ?_ (fun _ => ?_)
  ·
   intro y0 y1 y2 y3 y4 y5 y6 y7 y8 y9
   unfold salchowlaw10_placed.j1
   repeat' first
   | (with_reducible exact LeO.refl _)
   | exact ih0 _ _
   | exact ih1 _ _ _ _
   | exact ih2 _ _ _ _ _ _ _ _ _ _
   | exact ih3 _ _ _ _ _ _ _ _ _ _
   | exact LeO.none _
   | refine LeO.ite ?_ ?_
   | refine LeO.bind ?_ (fun _ => ?_)
  ·
   intro y0 y1 y2 y3 y4 y5 y6 y7 y8 y9
   unfold salchowlaw10_placed.l1
   repeat' first
   | (with_reducible exact LeO.refl _)
   | exact ih0 _ _
   | exact ih1 _ _ _ _
   | exact ih2 _ _ _ _ _ _ _ _ _ _
   | exact ih3 _ _ _ _ _ _ _ _ _ _
   | exact LeO.none _
   | refine LeO.ite ?_ ?_
   | refine LeO.bind ?_ (fun _ => ?_)
theorem salchowlaw10_placed.mono : ∀ a0 a1 k, LeO (salchowlaw10_placed.f k a0 a1) (salchowlaw10_placed.f (k + 1) a0 a1) := by
 intro a0 a1 k
 obtain ⟨ih0, ih1, ih2, ih3⟩ := salchowlaw10_placed.mono_l k
 exact ih0 a0 a1
def salchowlaw10_placed.T6 : Bool × List (List Nat × List Nat) := (true, [([], []), ([], []), ([1], [1]), ([2], [2]), ([0, 3], [0, 3]), ([4], [4]), ([], []), ([6], [6]), ([5, 7], [5, 7]), ([8], [8]), ([9], [9]), ([9], [9]), ([10, 11, 9], [9, 10, 11]), ([12, 9], [9, 12]), ([13, 9], [9, 13]), ([9], [9]), ([15, 9], [9, 15]), ([14, 16, 9], [9, 14, 16]), ([9, 17], [9, 17]), ([18, 9], [18]), ([19], [19]), ([19], [19]), ([20, 21, 19], [19, 20, 21]), ([22, 19], [19, 22]), ([23, 19], [19, 23]), ([19], [19]), ([25, 19], [19, 25]), ([24, 26, 19], [19, 24, 26]), ([19, 27], [19, 27])])
def salchowlaw10_placed.B6 : List Nat := [0, 0, 2, 6, 15, 31, 0, 64, 255, 511, 1023, 1023, 4095, 8191, 16383, 1023, 33791, 131071, 262143, 524287, 1048575, 1048575, 4194303, 8388607, 16777215, 1048575, 34603007, 134217727, 268435455]
theorem salchowlaw10_placed.tab6 : rtab .any (opsOf Tryd.f28 6) = salchowlaw10_placed.T6 := by kernel_rfl
theorem salchowlaw10_placed.bits6 : waitsOk salchowlaw10_placed.T6.2 salchowlaw10_placed.B6 = true := by kernel_rfl
def salchowlaw10_placed.T11 : Bool × List (List Nat × List Nat) := (true, [([], []), ([], []), ([1], [1]), ([], []), ([2, 3], [2, 3]), ([0, 4], [0, 4]), ([5], [5]), ([], []), ([7], [7]), ([], []), ([8, 9], [8, 9]), ([10], [10]), ([6, 11], [6, 11])])
def salchowlaw10_placed.B11 : List Nat := [0, 0, 2, 0, 14, 31, 63, 0, 128, 0, 896, 1920, 4095]
theorem salchowlaw10_placed.tab11 : rtab .any (opsOf Tryd.f28 11) = salchowlaw10_placed.T11 := by kernel_rfl
theorem salchowlaw10_placed.bits11 : waitsOk salchowlaw10_placed.T11.2 salchowlaw10_placed.B11 = true := by kernel_rfl
set_option maxHeartbeats 8000000 in
set_option maxRecDepth 100000 in
theorem salchowlaw10_placed.calls (k : Nat) : ∀ (A0 : Option Addr) (c0 : Nat) (l0 : List (S41)) (A1 : Option Addr) (c1 : Nat) (l1 : List (S46)) (r : Int) (w : World) (hr0 : Kd.C k41 w A0 l0.length l0) (hc0 : l0.length ≤ c0) (hr1 : Kd.C k46 w A1 l1.length l1) (hc1 : l1.length ≤ c1) (h : salchowlaw10_placed.f k l0 l1 = some r),
  Calls Tryd.prog 28 #[.slice A0 l0.length c0, .slice A1 l1.length c1] w fun e w' => e = .returned (.int .i64 r) ∧ Below w.heap.size w w' := by
 induction k using Nat.strongRecOn with
 | _ k ih =>
 intro A0 c0 l0 A1 c1 l1 r w hr0 hc0 hr1 hc1 h
 cases k with
 | zero => exact absurd h (by simp [salchowlaw10_placed.f])
 | succ k =>
 simp only [salchowlaw10_placed.f] at h
 have hu41 := Tryd.underlying41
 have hu46 := Tryd.underlying46
 have HR0 := Aside0.mk hr0
 have HC0 := Aside0.mk hc0
 clear hr0 hc0
 have HR1 := Aside0.mk hr1
 have HC1 := Aside0.mk hc1
 clear hr1 hc1
 have HB := Aside0.mk (Below.refl w.heap.size w)
 have H : (salchowlaw10_placed.l0 k l0 l1 0 0) = some r := h
 clear h
 have H' := Aside0.mk H
 clear H
 go_enter Tryd.func28, Tryd.ntmps28
 go_wp2
 go_loopg [5, 6] k (fun kq v5 v6 w' => ∃ (x5_1 : Int) (x6_1 : Int), v5 = .int .i64 x5_1 ∧ v6 = .int .i64 x6_1 ∧ Aside0 (salchowlaw10_placed.l0 kq l0 l1 x5_1 x6_1 = some r) ∧ Aside0 (kq ≤ k) ∧ Aside0 (Below w.heap.size w w'))
 case atStart => exact ⟨(0), (0), sr_, sr_, H', ⟨Nat.le_refl _⟩, ⟨bl_ HB.out⟩⟩
 case round =>
  clear H'
  try clear c1
  try clear c2
  try clear p2
  obtain ⟨x5_1, x6_1, rfl, rfl, HA, HK1, HB⟩ := hrel
  cases gk with
  | zero => exact absurd HA.out (by simp [salchowlaw10_placed.l0])
  | succ k1 =>
   have H := HA.out
   clear HA
   simp only [salchowlaw10_placed.l0] at H
   by_cases c3 : x6_1 < (l0.length : Int)
   ·
    rw [if_pos c3] at H
    have c3b0 := decide_eq_true c3
    clear c3
    by_cases c4 : 0 ≤ x6_1
    ·
     rw [if_pos c4] at H
     have c4b0 := decide_eq_true c4
     clear c4
     have HC5 := Aside0.mk H
     clear H
     have p365 : 0 ≤ (x6_1 : Int) := dt_
     have q365 : x6_1 < (l0.length : Int) := dt_
     obtain ⟨ad365, A365_1, c365_1, A365_3, c365_3, e365, hx365_0, hx365_1, hx365_2, hx365_3, hx365_4, hl365_1, hi365_1, hl365_3, hi365_3⟩ := at_T41 HR0.out x6_1 p365 q365
     cases e365
     replace hx365_0 := pw_cell_below HB.out hx365_0
     replace hx365_1 := pw_cell_below HB.out hx365_1
     replace hx365_2 := pw_cell_below HB.out hx365_2
     replace hx365_3 := pw_cell_below HB.out hx365_3
     replace hx365_4 := pw_cell_below HB.out hx365_4
     have HR365_1 := Aside0.mk hi365_1
     have HC365_1 := Aside0.mk hl365_1
     clear hi365_1 hl365_1
     have HR365_3 := Aside0.mk hi365_3
     have HC365_3 := Aside0.mk hl365_3
     clear hi365_3 hl365_3
     replace p365 := eq_true p365
     replace q365 := eq_true q365
     go_upto_region 6 with (first | ((with_reducible refine gate_dst (N := 7) rfl ?_); refine bx_ (N := 7) (cs := #[.string (⟨#[]⟩ : ByteArray), .slice none 0 0, .bool false, .slice none 0 0, .int .i64 0]) (t := 41) ?_; intro gb366 hg w6 hbox hb; have n0_ := Aside0.mk (below_step (bl_ HB.out) hb); have n1_ := Aside0.mk (hbox); have n2_ := Aside0.mk (bz_ (w := w) hg (bl_ HB.out)); have n3_ := Aside0.mk (bz_ (w := w) hg (bl_ HB.out)); clear HB; have HB := n0_; have BK366 := n1_; have GW366 := n2_; have GE366 := n3_; clear n0_ n1_ n2_ n3_; clear hb hbox hg; obtain ⟨hcz7_0, hcz7_1, hcz7_2, hcz7_3, hcz7_4, hfz7_0, hfz7_1, hfz7_2, hfz7_3, hfz7_4⟩ := cq5_ BK366.out))
     (try simp only [Act.put, List.setIfInBounds_toArray, List.set_cons_zero, List.set_cons_succ])
     go_cut [48] (fun v48 wc => ∃ (kq : Nat) (x48_4 : Bool), v48 = .bool x48_4 ∧ Aside0 (salchowlaw10_placed.j1 kq l0 l1 x5_1 x6_1 x48_4 ((rd_T41 l0 x6_1).f0) ((rd_T41 l0 x6_1).f1) ((rd_T41 l0 x6_1).f2) ((rd_T41 l0 x6_1).f3) ((rd_T41 l0 x6_1).f4) = some r) ∧ Aside0 (kq ≤ k1) ∧ Aside0 (wc.heap[gb366]? = some (.cells #[.string ((rd_T41 l0 x6_1).f0), (.slice A365_1 ((rd_T41 l0 x6_1).f1).length c365_1), .bool ((rd_T41 l0 x6_1).f2), (.slice A365_3 ((rd_T41 l0 x6_1).f3).length c365_3), .int .i64 ((rd_T41 l0 x6_1).f4)] 41 (0, 0))) ∧ Aside0 (Below w.heap.size w wc))
     case first =>
      have H := HC5.out
      clear HC5
      by_cases c8 : (wrap64 ((wrap64 (x5_1 + (((rd_T41 l0 x6_1).f1).length : Int))) + 1)) ≥ (l1.length : Int)
      ·
       rw [if_pos c8] at H
       have c8b0 := decide_eq_true c8
       clear c8
       (first | rw [c8b0] | (simp only [i64_w, i32_w]; rw [c8b0]) | skip)
       have H' := Aside0.mk H
       clear H
       try go_wp2
       have n0_ : Aside0 ((((((w6.setCell ⟨gb366, 0, none⟩ (.string ((rd_T41 l0 x6_1).f0))).setCell ⟨gb366, 1, none⟩ (.slice A365_1 ((rd_T41 l0 x6_1).f1).length c365_1)).setCell ⟨gb366, 2, none⟩ (.bool ((rd_T41 l0 x6_1).f2))).setCell ⟨gb366, 3, none⟩ (.slice A365_3 ((rd_T41 l0 x6_1).f3).length c365_3)).setCell ⟨gb366, 4, none⟩ (.int .i64 ((rd_T41 l0 x6_1).f4))).heap[gb366]? = some (.cells #[.string ((rd_T41 l0 x6_1).f0), .slice A365_1 ((rd_T41 l0 x6_1).f1).length c365_1, .bool ((rd_T41 l0 x6_1).f2), .slice A365_3 ((rd_T41 l0 x6_1).f3).length c365_3, .int .i64 ((rd_T41 l0 x6_1).f4)] 41 (0, 0))) := ⟨by exact put5_ (bk_ BK366.out)⟩
       have n1_ : Aside0 (Below w.heap.size w (((((w6.setCell ⟨gb366, 0, none⟩ (.string ((rd_T41 l0 x6_1).f0))).setCell ⟨gb366, 1, none⟩ (.slice A365_1 ((rd_T41 l0 x6_1).f1).length c365_1)).setCell ⟨gb366, 2, none⟩ (.bool ((rd_T41 l0 x6_1).f2))).setCell ⟨gb366, 3, none⟩ (.slice A365_3 ((rd_T41 l0 x6_1).f3).length c365_3)).setCell ⟨gb366, 4, none⟩ (.int .i64 ((rd_T41 l0 x6_1).f4)))) := ⟨bl1_ HB.out GE366.out⟩
       (try clear BK366)
       (try clear HB)
       generalize (((((w6.setCell ⟨gb366, 0, none⟩ (.string ((rd_T41 l0 x6_1).f0))).setCell ⟨gb366, 1, none⟩ (.slice A365_1 ((rd_T41 l0 x6_1).f1).length c365_1)).setCell ⟨gb366, 2, none⟩ (.bool ((rd_T41 l0 x6_1).f2))).setCell ⟨gb366, 3, none⟩ (.slice A365_3 ((rd_T41 l0 x6_1).f3).length c365_3)).setCell ⟨gb366, 4, none⟩ (.int .i64 ((rd_T41 l0 x6_1).f4))) = w9 at n0_ n1_ ⊢
       have BK366 := n0_
       have HB := n1_
       clear n0_ n1_
       refine cut2_ (blk_drew BK366.out) (below_drew1 HB.out) ?_
       clear BK366 HB
       intro BK366 HB
       refine start_ (n := 29) (S := fun w' => w'.cell? ⟨gb366, 0, none⟩ = some (.string ((rd_T41 l0 x6_1).f0)) ∧ w'.cell? ⟨gb366, 1, none⟩ = some (.slice A365_1 ((rd_T41 l0 x6_1).f1).length c365_1) ∧ w'.cell? ⟨gb366, 2, none⟩ = some (.bool ((rd_T41 l0 x6_1).f2)) ∧ w'.cell? ⟨gb366, 3, none⟩ = some (.slice A365_3 ((rd_T41 l0 x6_1).f3).length c365_3) ∧ w'.cell? ⟨gb366, 4, none⟩ = some (.int .i64 ((rd_T41 l0 x6_1).f4))) (ds := []) #[false, false, false, false, false, false, false, false, false, false, false, false, false, false, false, false, false, false, false, false, false, false, false, false, false, false, false, false, false] (by kernel_rfl) rfl rfl ⟨(blk_cell BK366.out 0).trans rfl, (blk_cell BK366.out 1).trans rfl, (blk_cell BK366.out 2).trans rfl, (blk_cell BK366.out 3).trans rfl, (blk_cell BK366.out 4).trans rfl⟩ (fun hHeld => ?_); refine with_tabW salchowlaw10_placed.tab6 salchowlaw10_placed.bits6 (fun HT_ HW_ => ?_)
       generalize w9.drew = w10 at BK366 HB hHeld ⊢
       refine pr_ (i := 0) (N := some 20) #[true, false, false, false, false, false, false, false, false, false, false, false, false, false, false, false, false, false, false, false, false, false, false, false, false, false, false, false, false] (any_of HT_.out (by kernel_rfl)) ?_
       refine pr_ (i := 1) (N := some 21) #[true, true, false, false, false, false, false, false, false, false, false, false, false, false, false, false, false, false, false, false, false, false, false, false, false, false, false, false, false] (any_of HT_.out (by kernel_rfl)) ?_
       refine pr_ (i := 6) (N := some 26) #[true, true, false, false, false, false, true, false, false, false, false, false, false, false, false, false, false, false, false, false, false, false, false, false, false, false, false, false, false] (any_of HT_.out (by kernel_rfl)) ?_
       refine pr_ (i := 7) (N := some 27) #[true, true, false, false, false, false, true, true, false, false, false, false, false, false, false, false, false, false, false, false, false, false, false, false, false, false, false, false, false] (any_of HT_.out (by kernel_rfl)) ?_
       refine take_ (i := 2) (N := some 22) (v := ?_) (a' := ?_) #[true, true, true, false, false, false, true, true, false, false, false, false, false, false, false, false, false, false, false, false, false, false, false, false, false, false, false, false, false] rfl rfl (take_ofW HT_.out HW_.out (by kernel_rfl)) (fun _ _ _ h => h) (Or.inl ⟨by rfl, ?_⟩) hHeld ?_ ?_
       rotate_left
       ·
        rintro w' ⟨s0, s1, s2, s3, s4⟩
        go_simp
        with_reducible rfl
       rotate_left
       ·
        simp only [Act.put, List.setIfInBounds_toArray, List.set_cons_zero, List.set_cons_succ, i64_w, i32_w]
        rfl
       refine pr_ (i := 3) (N := some 23) #[true, true, true, true, false, false, true, true, false, false, false, false, false, false, false, false, false, false, false, false, false, false, false, false, false, false, false, false, false] (any_of HT_.out (by kernel_rfl)) ?_
       refine pr_ (i := 4) (N := some 24) #[true, true, true, true, true, false, true, true, false, false, false, false, false, false, false, false, false, false, false, false, false, false, false, false, false, false, false, false, false] (any_of HT_.out (by kernel_rfl)) ?_
       refine pr_ (i := 5) (N := some 25) #[true, true, true, true, true, true, true, true, false, false, false, false, false, false, false, false, false, false, false, false, false, false, false, false, false, false, false, false, false] (any_of HT_.out (by kernel_rfl)) ?_
       refine pr_ (i := 8) (N := some 28) #[true, true, true, true, true, true, true, true, true, false, false, false, false, false, false, false, false, false, false, false, false, false, false, false, false, false, false, false, false] (any_of HT_.out (by kernel_rfl)) ?_
       refine pr_ (i := 9) (N := some 29) #[true, true, true, true, true, true, true, true, true, true, false, false, false, false, false, false, false, false, false, false, false, false, false, false, false, false, false, false, false] (any_of HT_.out (by kernel_rfl)) ?_
       refine pure_ (i := 10) (N := some 30) (v := undef) (a' := ?_) #[true, true, true, true, true, true, true, true, true, true, true, false, false, false, false, false, false, false, false, false, false, false, false, false, false, false, false, false, false] rfl rfl (any_of HT_.out (by kernel_rfl)) (fun _ _ _ h => h) (Or.inr ⟨by rfl, rfl⟩) ?_ ?_
       rotate_left
       ·
        simp only [Act.put, List.setIfInBounds_toArray, List.set_cons_zero, List.set_cons_succ, i64_w, i32_w]
        rfl
       refine pure_ (i := 11) (N := some 31) (v := undef) (a' := ?_) #[true, true, true, true, true, true, true, true, true, true, true, true, false, false, false, false, false, false, false, false, false, false, false, false, false, false, false, false, false] rfl rfl (any_of HT_.out (by kernel_rfl)) (fun _ _ _ h => h) (Or.inr ⟨by rfl, rfl⟩) ?_ ?_
       rotate_left
       ·
        simp only [Act.put, List.setIfInBounds_toArray, List.set_cons_zero, List.set_cons_succ, i64_w, i32_w]
        rfl
       refine pure_ (i := 12) (N := some 32) (v := undef) (a' := ?_) #[true, true, true, true, true, true, true, true, true, true, true, true, true, false, false, false, false, false, false, false, false, false, false, false, false, false, false, false, false] rfl rfl (any_of HT_.out (by kernel_rfl)) (fun _ _ _ h => h) (Or.inr ⟨by rfl, rfl⟩) ?_ ?_
       rotate_left
       ·
        simp only [Act.put, List.setIfInBounds_toArray, List.set_cons_zero, List.set_cons_succ, i64_w, i32_w]
        rfl
       refine pure_ (i := 13) (N := some 33) (v := undef) (a' := ?_) #[true, true, true, true, true, true, true, true, true, true, true, true, true, true, false, false, false, false, false, false, false, false, false, false, false, false, false, false, false] rfl rfl (any_of HT_.out (by kernel_rfl)) (fun _ _ _ h => h) (Or.inr ⟨by rfl, rfl⟩) ?_ ?_
       rotate_left
       ·
        simp only [Act.put, List.setIfInBounds_toArray, List.set_cons_zero, List.set_cons_succ, i64_w, i32_w]
        rfl
       refine pure_ (i := 14) (N := some 34) (v := undef) (a' := ?_) #[true, true, true, true, true, true, true, true, true, true, true, true, true, true, true, false, false, false, false, false, false, false, false, false, false, false, false, false, false] rfl rfl (any_of HT_.out (by kernel_rfl)) (fun _ _ _ h => h) (Or.inr ⟨by rfl, rfl⟩) ?_ ?_
       rotate_left
       ·
        simp only [Act.put, List.setIfInBounds_toArray, List.set_cons_zero, List.set_cons_succ, i64_w, i32_w]
        rfl
       refine pure_ (i := 15) (N := some 35) (v := undef) (a' := ?_) #[true, true, true, true, true, true, true, true, true, true, true, true, true, true, true, true, false, false, false, false, false, false, false, false, false, false, false, false, false] rfl rfl (any_of HT_.out (by kernel_rfl)) (fun _ _ _ h => h) (Or.inr ⟨by rfl, rfl⟩) ?_ ?_
       rotate_left
       ·
        simp only [Act.put, List.setIfInBounds_toArray, List.set_cons_zero, List.set_cons_succ, i64_w, i32_w]
        rfl
       refine pure_ (i := 16) (N := some 36) (v := undef) (a' := ?_) #[true, true, true, true, true, true, true, true, true, true, true, true, true, true, true, true, true, false, false, false, false, false, false, false, false, false, false, false, false] rfl rfl (any_of HT_.out (by kernel_rfl)) (fun _ _ _ h => h) (Or.inr ⟨by rfl, rfl⟩) ?_ ?_
       rotate_left
       ·
        simp only [Act.put, List.setIfInBounds_toArray, List.set_cons_zero, List.set_cons_succ, i64_w, i32_w]
        rfl
       refine pure_ (i := 17) (N := some 37) (v := undef) (a' := ?_) #[true, true, true, true, true, true, true, true, true, true, true, true, true, true, true, true, true, true, false, false, false, false, false, false, false, false, false, false, false] rfl rfl (any_of HT_.out (by kernel_rfl)) (fun _ _ _ h => h) (Or.inr ⟨by rfl, rfl⟩) ?_ ?_
       rotate_left
       ·
        simp only [Act.put, List.setIfInBounds_toArray, List.set_cons_zero, List.set_cons_succ, i64_w, i32_w]
        rfl
       refine pr_ (i := 18) (N := some 38) #[true, true, true, true, true, true, true, true, true, true, true, true, true, true, true, true, true, true, true, false, false, false, false, false, false, false, false, false, false] (any_of HT_.out (by kernel_rfl)) ?_
       refine pr_ (i := 19) (N := some 39) #[true, true, true, true, true, true, true, true, true, true, true, true, true, true, true, true, true, true, true, true, false, false, false, false, false, false, false, false, false] (any_of HT_.out (by kernel_rfl)) ?_
       refine pure_ (i := 20) (N := some 40) (v := undef) (a' := ?_) #[true, true, true, true, true, true, true, true, true, true, true, true, true, true, true, true, true, true, true, true, true, false, false, false, false, false, false, false, false] rfl rfl (any_of HT_.out (by kernel_rfl)) (fun _ _ _ h => h) (Or.inr ⟨by rfl, rfl⟩) ?_ ?_
       rotate_left
       ·
        simp only [Act.put, List.setIfInBounds_toArray, List.set_cons_zero, List.set_cons_succ, i64_w, i32_w]
        rfl
       refine pure_ (i := 21) (N := some 41) (v := undef) (a' := ?_) #[true, true, true, true, true, true, true, true, true, true, true, true, true, true, true, true, true, true, true, true, true, true, false, false, false, false, false, false, false] rfl rfl (any_of HT_.out (by kernel_rfl)) (fun _ _ _ h => h) (Or.inr ⟨by rfl, rfl⟩) ?_ ?_
       rotate_left
       ·
        simp only [Act.put, List.setIfInBounds_toArray, List.set_cons_zero, List.set_cons_succ, i64_w, i32_w]
        rfl
       refine pure_ (i := 22) (N := some 42) (v := undef) (a' := ?_) #[true, true, true, true, true, true, true, true, true, true, true, true, true, true, true, true, true, true, true, true, true, true, true, false, false, false, false, false, false] rfl rfl (any_of HT_.out (by kernel_rfl)) (fun _ _ _ h => h) (Or.inr ⟨by rfl, rfl⟩) ?_ ?_
       rotate_left
       ·
        simp only [Act.put, List.setIfInBounds_toArray, List.set_cons_zero, List.set_cons_succ, i64_w, i32_w]
        rfl
       refine pure_ (i := 23) (N := some 43) (v := undef) (a' := ?_) #[true, true, true, true, true, true, true, true, true, true, true, true, true, true, true, true, true, true, true, true, true, true, true, true, false, false, false, false, false] rfl rfl (any_of HT_.out (by kernel_rfl)) (fun _ _ _ h => h) (Or.inr ⟨by rfl, rfl⟩) ?_ ?_
       rotate_left
       ·
        simp only [Act.put, List.setIfInBounds_toArray, List.set_cons_zero, List.set_cons_succ, i64_w, i32_w]
        rfl
       refine pure_ (i := 24) (N := some 44) (v := undef) (a' := ?_) #[true, true, true, true, true, true, true, true, true, true, true, true, true, true, true, true, true, true, true, true, true, true, true, true, true, false, false, false, false] rfl rfl (any_of HT_.out (by kernel_rfl)) (fun _ _ _ h => h) (Or.inr ⟨by rfl, rfl⟩) ?_ ?_
       rotate_left
       ·
        simp only [Act.put, List.setIfInBounds_toArray, List.set_cons_zero, List.set_cons_succ, i64_w, i32_w]
        rfl
       refine pure_ (i := 25) (N := some 45) (v := undef) (a' := ?_) #[true, true, true, true, true, true, true, true, true, true, true, true, true, true, true, true, true, true, true, true, true, true, true, true, true, true, false, false, false] rfl rfl (any_of HT_.out (by kernel_rfl)) (fun _ _ _ h => h) (Or.inr ⟨by rfl, rfl⟩) ?_ ?_
       rotate_left
       ·
        simp only [Act.put, List.setIfInBounds_toArray, List.set_cons_zero, List.set_cons_succ, i64_w, i32_w]
        rfl
       refine pure_ (i := 26) (N := some 46) (v := undef) (a' := ?_) #[true, true, true, true, true, true, true, true, true, true, true, true, true, true, true, true, true, true, true, true, true, true, true, true, true, true, true, false, false] rfl rfl (any_of HT_.out (by kernel_rfl)) (fun _ _ _ h => h) (Or.inr ⟨by rfl, rfl⟩) ?_ ?_
       rotate_left
       ·
        simp only [Act.put, List.setIfInBounds_toArray, List.set_cons_zero, List.set_cons_succ, i64_w, i32_w]
        rfl
       refine pure_ (i := 27) (N := some 47) (v := undef) (a' := ?_) #[true, true, true, true, true, true, true, true, true, true, true, true, true, true, true, true, true, true, true, true, true, true, true, true, true, true, true, true, false] rfl rfl (any_of HT_.out (by kernel_rfl)) (fun _ _ _ h => h) (Or.inr ⟨by rfl, rfl⟩) ?_ ?_
       rotate_left
       ·
        simp only [Act.put, List.setIfInBounds_toArray, List.set_cons_zero, List.set_cons_succ, i64_w, i32_w]
        rfl
       refine pr_ (i := 28) (N := some 48) #[true, true, true, true, true, true, true, true, true, true, true, true, true, true, true, true, true, true, true, true, true, true, true, true, true, true, true, true, true] (any_of HT_.out (by kernel_rfl)) ?_
       refine done_ (done_of HT_.out (by kernel_rfl)) ?_
       try go_wp2
       go_meet
       case rel => exact ⟨_, (true), sr_, H', ⟨by have := HK1.out; first | omega | exact Nat.le_refl _⟩, ⟨by exact bk_ BK366.out⟩, ⟨bl1_ HB.out GE366.out⟩⟩
      ·
       rw [if_neg c8] at H
       have c8b0 := decide_eq_false c8
       clear c8
       (first | rw [c8b0] | (simp only [i64_w, i32_w]; rw [c8b0]) | skip)
       by_cases c11 : 0 ≤ x5_1
       ·
        rw [if_pos c11] at H
        have c11b0 := decide_eq_true c11
        clear c11
        by_cases c12 : x5_1 < (l1.length : Int)
        ·
         rw [if_pos c12] at H
         have c12b0 := decide_eq_true c12
         clear c12
         by_cases c13 : ((rd_T46 l1 x5_1).f3) = ((rd_T41 l0 x6_1).f4)
         ·
          rw [if_pos c13] at H
          have c13b0 := beq_iff_eq.mpr c13
          have c13b1 := bne_eq_false_iff_eq.mpr c13
          clear c13
          have H' := Aside0.mk H
          clear H
          try go_wp2
          have n0_ : Aside0 ((((((w6.setCell ⟨gb366, 0, none⟩ (.string ((rd_T41 l0 x6_1).f0))).setCell ⟨gb366, 1, none⟩ (.slice A365_1 ((rd_T41 l0 x6_1).f1).length c365_1)).setCell ⟨gb366, 2, none⟩ (.bool ((rd_T41 l0 x6_1).f2))).setCell ⟨gb366, 3, none⟩ (.slice A365_3 ((rd_T41 l0 x6_1).f3).length c365_3)).setCell ⟨gb366, 4, none⟩ (.int .i64 ((rd_T41 l0 x6_1).f4))).heap[gb366]? = some (.cells #[.string ((rd_T41 l0 x6_1).f0), .slice A365_1 ((rd_T41 l0 x6_1).f1).length c365_1, .bool ((rd_T41 l0 x6_1).f2), .slice A365_3 ((rd_T41 l0 x6_1).f3).length c365_3, .int .i64 ((rd_T41 l0 x6_1).f4)] 41 (0, 0))) := ⟨by exact put5_ (bk_ BK366.out)⟩
          have n1_ : Aside0 (Below w.heap.size w (((((w6.setCell ⟨gb366, 0, none⟩ (.string ((rd_T41 l0 x6_1).f0))).setCell ⟨gb366, 1, none⟩ (.slice A365_1 ((rd_T41 l0 x6_1).f1).length c365_1)).setCell ⟨gb366, 2, none⟩ (.bool ((rd_T41 l0 x6_1).f2))).setCell ⟨gb366, 3, none⟩ (.slice A365_3 ((rd_T41 l0 x6_1).f3).length c365_3)).setCell ⟨gb366, 4, none⟩ (.int .i64 ((rd_T41 l0 x6_1).f4)))) := ⟨bl1_ HB.out GE366.out⟩
          (try clear BK366)
          (try clear HB)
          generalize (((((w6.setCell ⟨gb366, 0, none⟩ (.string ((rd_T41 l0 x6_1).f0))).setCell ⟨gb366, 1, none⟩ (.slice A365_1 ((rd_T41 l0 x6_1).f1).length c365_1)).setCell ⟨gb366, 2, none⟩ (.bool ((rd_T41 l0 x6_1).f2))).setCell ⟨gb366, 3, none⟩ (.slice A365_3 ((rd_T41 l0 x6_1).f3).length c365_3)).setCell ⟨gb366, 4, none⟩ (.int .i64 ((rd_T41 l0 x6_1).f4))) = w14 at n0_ n1_ ⊢
          have BK366 := n0_
          have HB := n1_
          clear n0_ n1_
          refine cut2_ (blk_drew BK366.out) (below_drew1 HB.out) ?_
          clear BK366 HB
          intro BK366 HB
          have p367 : 0 ≤ (x5_1 : Int) := dt_
          have q367 : x5_1 < (l1.length : Int) := dt_
          obtain ⟨ad367, e367, hx367_0, hx367_1, hx367_2, hx367_3⟩ := at_T46 HR1.out x5_1 p367 q367
          have hw367_3 := hx367_3
          have hw367_2 := hx367_2
          have hw367_1 := hx367_1
          have hw367_0 := hx367_0
          cases e367
          replace hx367_0 := pw_cell_below HB.out hx367_0
          replace hx367_1 := pw_cell_below HB.out hx367_1
          replace hx367_2 := pw_cell_below HB.out hx367_2
          replace hx367_3 := pw_cell_below HB.out hx367_3
          replace p367 := eq_true p367
          replace q367 := eq_true q367
          have p368 : 0 ≤ (x5_1 : Int) := dt_
          have q368 : x5_1 < (l1.length : Int) := dt_
          obtain ⟨ad368, e368, hx368_0, hx368_1, hx368_2, hx368_3⟩ := at_T46 HR1.out x5_1 p368 q368
          have hw368_3 := hx368_3
          have hw368_2 := hx368_2
          have hw368_1 := hx368_1
          have hw368_0 := hx368_0
          obtain rfl : ad367 = ad368 := (by injection e368)
          replace hx368_0 := pw_cell_below HB.out hx368_0
          replace hx368_1 := pw_cell_below HB.out hx368_1
          replace hx368_2 := pw_cell_below HB.out hx368_2
          replace hx368_3 := pw_cell_below HB.out hx368_3
          replace p368 := eq_true p368
          replace q368 := eq_true q368
          refine start_ (n := 29) (S := fun w' => w'.cell? ⟨gb366, 0, none⟩ = some (.string ((rd_T41 l0 x6_1).f0)) ∧ w'.cell? ⟨gb366, 1, none⟩ = some (.slice A365_1 ((rd_T41 l0 x6_1).f1).length c365_1) ∧ w'.cell? ⟨gb366, 2, none⟩ = some (.bool ((rd_T41 l0 x6_1).f2)) ∧ w'.cell? ⟨gb366, 3, none⟩ = some (.slice A365_3 ((rd_T41 l0 x6_1).f3).length c365_3) ∧ w'.cell? ⟨gb366, 4, none⟩ = some (.int .i64 ((rd_T41 l0 x6_1).f4)) ∧ w'.cell? (ad367.add ((x5_1).toNat * 4)) = some (.int .i64 ((rd_T46 l1 x5_1).f0)) ∧ w'.cell? ⟨(ad367.add ((x5_1).toNat * 4)).block, (ad367.add ((x5_1).toNat * 4)).off + 1, none⟩ = some (.string ((rd_T46 l1 x5_1).f1)) ∧ w'.cell? ⟨(ad367.add ((x5_1).toNat * 4)).block, (ad367.add ((x5_1).toNat * 4)).off + 2, none⟩ = some (.int .i64 ((rd_T46 l1 x5_1).f2)) ∧ w'.cell? ⟨(ad367.add ((x5_1).toNat * 4)).block, (ad367.add ((x5_1).toNat * 4)).off + 3, none⟩ = some (.int .i64 ((rd_T46 l1 x5_1).f3)) ∧ w'.cell? (ad367.add ((x5_1).toNat * 4)) = some (.int .i64 ((rd_T46 l1 x5_1).f0)) ∧ w'.cell? ⟨(ad367.add ((x5_1).toNat * 4)).block, (ad367.add ((x5_1).toNat * 4)).off + 1, none⟩ = some (.string ((rd_T46 l1 x5_1).f1)) ∧ w'.cell? ⟨(ad367.add ((x5_1).toNat * 4)).block, (ad367.add ((x5_1).toNat * 4)).off + 2, none⟩ = some (.int .i64 ((rd_T46 l1 x5_1).f2)) ∧ w'.cell? ⟨(ad367.add ((x5_1).toNat * 4)).block, (ad367.add ((x5_1).toNat * 4)).off + 3, none⟩ = some (.int .i64 ((rd_T46 l1 x5_1).f3))) (ds := []) #[false, false, false, false, false, false, false, false, false, false, false, false, false, false, false, false, false, false, false, false, false, false, false, false, false, false, false, false, false] (by kernel_rfl) rfl rfl ⟨(blk_cell BK366.out 0).trans rfl, (blk_cell BK366.out 1).trans rfl, (blk_cell BK366.out 2).trans rfl, (blk_cell BK366.out 3).trans rfl, (blk_cell BK366.out 4).trans rfl, ((HB.out.cell (World.block_lt_of_cell? w _ hw367_0)).trans hw367_0), ((HB.out.cell (World.block_lt_of_cell? w _ hw367_1)).trans hw367_1), ((HB.out.cell (World.block_lt_of_cell? w _ hw367_2)).trans hw367_2), ((HB.out.cell (World.block_lt_of_cell? w _ hw367_3)).trans hw367_3), ((HB.out.cell (World.block_lt_of_cell? w _ hw368_0)).trans hw368_0), ((HB.out.cell (World.block_lt_of_cell? w _ hw368_1)).trans hw368_1), ((HB.out.cell (World.block_lt_of_cell? w _ hw368_2)).trans hw368_2), ((HB.out.cell (World.block_lt_of_cell? w _ hw368_3)).trans hw368_3)⟩ (fun hHeld => ?_); refine with_tabW salchowlaw10_placed.tab6 salchowlaw10_placed.bits6 (fun HT_ HW_ => ?_)
          generalize w14.drew = w15 at BK366 HB hx367_0 hx367_1 hx367_2 hx367_3 hx368_0 hx368_1 hx368_2 hx368_3 hHeld ⊢
          refine pr_ (i := 0) (N := some 20) #[true, false, false, false, false, false, false, false, false, false, false, false, false, false, false, false, false, false, false, false, false, false, false, false, false, false, false, false, false] (any_of HT_.out (by kernel_rfl)) ?_
          refine pr_ (i := 1) (N := some 21) #[true, true, false, false, false, false, false, false, false, false, false, false, false, false, false, false, false, false, false, false, false, false, false, false, false, false, false, false, false] (any_of HT_.out (by kernel_rfl)) ?_
          refine pr_ (i := 6) (N := some 26) #[true, true, false, false, false, false, true, false, false, false, false, false, false, false, false, false, false, false, false, false, false, false, false, false, false, false, false, false, false] (any_of HT_.out (by kernel_rfl)) ?_
          refine pr_ (i := 7) (N := some 27) #[true, true, false, false, false, false, true, true, false, false, false, false, false, false, false, false, false, false, false, false, false, false, false, false, false, false, false, false, false] (any_of HT_.out (by kernel_rfl)) ?_
          refine take_ (i := 2) (N := some 22) (v := ?_) (a' := ?_) #[true, true, true, false, false, false, true, true, false, false, false, false, false, false, false, false, false, false, false, false, false, false, false, false, false, false, false, false, false] rfl rfl (take_ofW HT_.out HW_.out (by kernel_rfl)) (fun _ _ _ h => h) (Or.inl ⟨by rfl, ?_⟩) hHeld ?_ ?_
          rotate_left
          ·
           rintro w' ⟨s0, s1, s2, s3, s4, s5, s6, s7, s8, s9, s10, s11, s12⟩
           go_simp
           with_reducible rfl
          rotate_left
          ·
           simp only [Act.put, List.setIfInBounds_toArray, List.set_cons_zero, List.set_cons_succ, i64_w, i32_w]
           rfl
          refine pr_ (i := 3) (N := some 23) #[true, true, true, true, false, false, true, true, false, false, false, false, false, false, false, false, false, false, false, false, false, false, false, false, false, false, false, false, false] (any_of HT_.out (by kernel_rfl)) ?_
          refine pr_ (i := 4) (N := some 24) #[true, true, true, true, true, false, true, true, false, false, false, false, false, false, false, false, false, false, false, false, false, false, false, false, false, false, false, false, false] (any_of HT_.out (by kernel_rfl)) ?_
          refine pr_ (i := 5) (N := some 25) #[true, true, true, true, true, true, true, true, false, false, false, false, false, false, false, false, false, false, false, false, false, false, false, false, false, false, false, false, false] (any_of HT_.out (by kernel_rfl)) ?_
          refine pr_ (i := 8) (N := some 28) #[true, true, true, true, true, true, true, true, true, false, false, false, false, false, false, false, false, false, false, false, false, false, false, false, false, false, false, false, false] (any_of HT_.out (by kernel_rfl)) ?_
          refine pr_ (i := 9) (N := some 29) #[true, true, true, true, true, true, true, true, true, true, false, false, false, false, false, false, false, false, false, false, false, false, false, false, false, false, false, false, false] (any_of HT_.out (by kernel_rfl)) ?_
          refine pr_ (i := 10) (N := some 30) #[true, true, true, true, true, true, true, true, true, true, true, false, false, false, false, false, false, false, false, false, false, false, false, false, false, false, false, false, false] (any_of HT_.out (by kernel_rfl)) ?_
          refine pr_ (i := 11) (N := some 31) #[true, true, true, true, true, true, true, true, true, true, true, true, false, false, false, false, false, false, false, false, false, false, false, false, false, false, false, false, false] (any_of HT_.out (by kernel_rfl)) ?_
          refine pr_ (i := 12) (N := some 32) #[true, true, true, true, true, true, true, true, true, true, true, true, true, false, false, false, false, false, false, false, false, false, false, false, false, false, false, false, false] (any_of HT_.out (by kernel_rfl)) ?_
          refine pr_ (i := 13) (N := some 33) #[true, true, true, true, true, true, true, true, true, true, true, true, true, true, false, false, false, false, false, false, false, false, false, false, false, false, false, false, false] (any_of HT_.out (by kernel_rfl)) ?_
          refine pr_ (i := 15) (N := some 35) #[true, true, true, true, true, true, true, true, true, true, true, true, true, true, false, true, false, false, false, false, false, false, false, false, false, false, false, false, false] (any_of HT_.out (by kernel_rfl)) ?_
          refine take_ (i := 14) (N := some 34) (v := ?_) (a' := ?_) #[true, true, true, true, true, true, true, true, true, true, true, true, true, true, true, true, false, false, false, false, false, false, false, false, false, false, false, false, false] rfl rfl (take_ofW HT_.out HW_.out (by kernel_rfl)) (fun _ _ _ h => h) (Or.inl ⟨by rfl, ?_⟩) hHeld ?_ ?_
          rotate_left
          ·
           rintro w' ⟨s0, s1, s2, s3, s4, s5, s6, s7, s8, s9, s10, s11, s12⟩
           go_simp
           with_reducible rfl
          rotate_left
          ·
           simp only [Act.put, List.setIfInBounds_toArray, List.set_cons_zero, List.set_cons_succ, i64_w, i32_w]
           rfl
          refine take_ (i := 16) (N := some 36) (v := ?_) (a' := ?_) #[true, true, true, true, true, true, true, true, true, true, true, true, true, true, true, true, true, false, false, false, false, false, false, false, false, false, false, false, false] rfl rfl (take_ofW HT_.out HW_.out (by kernel_rfl)) (fun _ _ _ h => h) (Or.inl ⟨by rfl, ?_⟩) hHeld ?_ ?_
          rotate_left
          ·
           rintro w' ⟨s0, s1, s2, s3, s4, s5, s6, s7, s8, s9, s10, s11, s12⟩
           go_simp
           with_reducible rfl
          rotate_left
          ·
           simp only [Act.put, List.setIfInBounds_toArray, List.set_cons_zero, List.set_cons_succ, i64_w, i32_w]
           rfl
          refine pr_ (i := 17) (N := some 37) #[true, true, true, true, true, true, true, true, true, true, true, true, true, true, true, true, true, true, false, false, false, false, false, false, false, false, false, false, false] (any_of HT_.out (by kernel_rfl)) ?_
          refine pr_ (i := 18) (N := some 38) #[true, true, true, true, true, true, true, true, true, true, true, true, true, true, true, true, true, true, true, false, false, false, false, false, false, false, false, false, false] (any_of HT_.out (by kernel_rfl)) ?_
          refine pr_ (i := 19) (N := some 39) #[true, true, true, true, true, true, true, true, true, true, true, true, true, true, true, true, true, true, true, true, false, false, false, false, false, false, false, false, false] (any_of HT_.out (by kernel_rfl)) ?_
          refine pr_ (i := 20) (N := some 40) #[true, true, true, true, true, true, true, true, true, true, true, true, true, true, true, true, true, true, true, true, true, false, false, false, false, false, false, false, false] (any_of HT_.out (by kernel_rfl)) ?_
          refine pr_ (i := 21) (N := some 41) #[true, true, true, true, true, true, true, true, true, true, true, true, true, true, true, true, true, true, true, true, true, true, false, false, false, false, false, false, false] (any_of HT_.out (by kernel_rfl)) ?_
          refine pr_ (i := 22) (N := some 42) #[true, true, true, true, true, true, true, true, true, true, true, true, true, true, true, true, true, true, true, true, true, true, true, false, false, false, false, false, false] (any_of HT_.out (by kernel_rfl)) ?_
          refine pr_ (i := 23) (N := some 43) #[true, true, true, true, true, true, true, true, true, true, true, true, true, true, true, true, true, true, true, true, true, true, true, true, false, false, false, false, false] (any_of HT_.out (by kernel_rfl)) ?_
          refine pr_ (i := 25) (N := some 45) #[true, true, true, true, true, true, true, true, true, true, true, true, true, true, true, true, true, true, true, true, true, true, true, true, false, true, false, false, false] (any_of HT_.out (by kernel_rfl)) ?_
          refine take_ (i := 24) (N := some 44) (v := ?_) (a' := ?_) #[true, true, true, true, true, true, true, true, true, true, true, true, true, true, true, true, true, true, true, true, true, true, true, true, true, true, false, false, false] rfl rfl (take_ofW HT_.out HW_.out (by kernel_rfl)) (fun _ _ _ h => h) (Or.inl ⟨by rfl, ?_⟩) hHeld ?_ ?_
          rotate_left
          ·
           rintro w' ⟨s0, s1, s2, s3, s4, s5, s6, s7, s8, s9, s10, s11, s12⟩
           go_simp
           with_reducible rfl
          rotate_left
          ·
           simp only [Act.put, List.setIfInBounds_toArray, List.set_cons_zero, List.set_cons_succ, i64_w, i32_w]
           rfl
          refine take_ (i := 26) (N := some 46) (v := ?_) (a' := ?_) #[true, true, true, true, true, true, true, true, true, true, true, true, true, true, true, true, true, true, true, true, true, true, true, true, true, true, true, false, false] rfl rfl (take_ofW HT_.out HW_.out (by kernel_rfl)) (fun _ _ _ h => h) (Or.inl ⟨by rfl, ?_⟩) hHeld ?_ ?_
          rotate_left
          ·
           rintro w' ⟨s0, s1, s2, s3, s4, s5, s6, s7, s8, s9, s10, s11, s12⟩
           go_simp
           with_reducible rfl
          rotate_left
          ·
           simp only [Act.put, List.setIfInBounds_toArray, List.set_cons_zero, List.set_cons_succ, i64_w, i32_w]
           rfl
          refine pr_ (i := 27) (N := some 47) #[true, true, true, true, true, true, true, true, true, true, true, true, true, true, true, true, true, true, true, true, true, true, true, true, true, true, true, true, false] (any_of HT_.out (by kernel_rfl)) ?_
          refine pr_ (i := 28) (N := some 48) #[true, true, true, true, true, true, true, true, true, true, true, true, true, true, true, true, true, true, true, true, true, true, true, true, true, true, true, true, true] (any_of HT_.out (by kernel_rfl)) ?_
          refine done_ (done_of HT_.out (by kernel_rfl)) ?_
          try go_wp2
          go_meet
          case rel => exact ⟨_, ((((rd_T46 l1 x5_1).f1).toList != ((rd_T41 l0 x6_1).f0).toList)), sr_, H', ⟨by have := HK1.out; first | omega | exact Nat.le_refl _⟩, ⟨by exact bk_ BK366.out⟩, ⟨bl1_ HB.out GE366.out⟩⟩
         ·
          rw [if_neg c13] at H
          have c13b0 := beq_eq_false_iff_ne.mpr c13
          have c13b1 := bne_iff_ne.mpr c13
          have H' := Aside0.mk H
          clear H
          try go_wp2
          have n0_ : Aside0 ((((((w6.setCell ⟨gb366, 0, none⟩ (.string ((rd_T41 l0 x6_1).f0))).setCell ⟨gb366, 1, none⟩ (.slice A365_1 ((rd_T41 l0 x6_1).f1).length c365_1)).setCell ⟨gb366, 2, none⟩ (.bool ((rd_T41 l0 x6_1).f2))).setCell ⟨gb366, 3, none⟩ (.slice A365_3 ((rd_T41 l0 x6_1).f3).length c365_3)).setCell ⟨gb366, 4, none⟩ (.int .i64 ((rd_T41 l0 x6_1).f4))).heap[gb366]? = some (.cells #[.string ((rd_T41 l0 x6_1).f0), .slice A365_1 ((rd_T41 l0 x6_1).f1).length c365_1, .bool ((rd_T41 l0 x6_1).f2), .slice A365_3 ((rd_T41 l0 x6_1).f3).length c365_3, .int .i64 ((rd_T41 l0 x6_1).f4)] 41 (0, 0))) := ⟨by exact put5_ (bk_ BK366.out)⟩
          have n1_ : Aside0 (Below w.heap.size w (((((w6.setCell ⟨gb366, 0, none⟩ (.string ((rd_T41 l0 x6_1).f0))).setCell ⟨gb366, 1, none⟩ (.slice A365_1 ((rd_T41 l0 x6_1).f1).length c365_1)).setCell ⟨gb366, 2, none⟩ (.bool ((rd_T41 l0 x6_1).f2))).setCell ⟨gb366, 3, none⟩ (.slice A365_3 ((rd_T41 l0 x6_1).f3).length c365_3)).setCell ⟨gb366, 4, none⟩ (.int .i64 ((rd_T41 l0 x6_1).f4)))) := ⟨bl1_ HB.out GE366.out⟩
          (try clear BK366)
          (try clear HB)
          generalize (((((w6.setCell ⟨gb366, 0, none⟩ (.string ((rd_T41 l0 x6_1).f0))).setCell ⟨gb366, 1, none⟩ (.slice A365_1 ((rd_T41 l0 x6_1).f1).length c365_1)).setCell ⟨gb366, 2, none⟩ (.bool ((rd_T41 l0 x6_1).f2))).setCell ⟨gb366, 3, none⟩ (.slice A365_3 ((rd_T41 l0 x6_1).f3).length c365_3)).setCell ⟨gb366, 4, none⟩ (.int .i64 ((rd_T41 l0 x6_1).f4))) = w16 at n0_ n1_ ⊢
          have BK366 := n0_
          have HB := n1_
          clear n0_ n1_
          refine cut2_ (blk_drew BK366.out) (below_drew1 HB.out) ?_
          clear BK366 HB
          intro BK366 HB
          have p367 : 0 ≤ (x5_1 : Int) := dt_
          have q367 : x5_1 < (l1.length : Int) := dt_
          obtain ⟨ad367, e367, hx367_0, hx367_1, hx367_2, hx367_3⟩ := at_T46 HR1.out x5_1 p367 q367
          have hw367_3 := hx367_3
          have hw367_2 := hx367_2
          have hw367_1 := hx367_1
          have hw367_0 := hx367_0
          cases e367
          replace hx367_0 := pw_cell_below HB.out hx367_0
          replace hx367_1 := pw_cell_below HB.out hx367_1
          replace hx367_2 := pw_cell_below HB.out hx367_2
          replace hx367_3 := pw_cell_below HB.out hx367_3
          replace p367 := eq_true p367
          replace q367 := eq_true q367
          refine start_ (n := 29) (S := fun w' => w'.cell? ⟨gb366, 0, none⟩ = some (.string ((rd_T41 l0 x6_1).f0)) ∧ w'.cell? ⟨gb366, 1, none⟩ = some (.slice A365_1 ((rd_T41 l0 x6_1).f1).length c365_1) ∧ w'.cell? ⟨gb366, 2, none⟩ = some (.bool ((rd_T41 l0 x6_1).f2)) ∧ w'.cell? ⟨gb366, 3, none⟩ = some (.slice A365_3 ((rd_T41 l0 x6_1).f3).length c365_3) ∧ w'.cell? ⟨gb366, 4, none⟩ = some (.int .i64 ((rd_T41 l0 x6_1).f4)) ∧ w'.cell? (ad367.add ((x5_1).toNat * 4)) = some (.int .i64 ((rd_T46 l1 x5_1).f0)) ∧ w'.cell? ⟨(ad367.add ((x5_1).toNat * 4)).block, (ad367.add ((x5_1).toNat * 4)).off + 1, none⟩ = some (.string ((rd_T46 l1 x5_1).f1)) ∧ w'.cell? ⟨(ad367.add ((x5_1).toNat * 4)).block, (ad367.add ((x5_1).toNat * 4)).off + 2, none⟩ = some (.int .i64 ((rd_T46 l1 x5_1).f2)) ∧ w'.cell? ⟨(ad367.add ((x5_1).toNat * 4)).block, (ad367.add ((x5_1).toNat * 4)).off + 3, none⟩ = some (.int .i64 ((rd_T46 l1 x5_1).f3))) (ds := []) #[false, false, false, false, false, false, false, false, false, false, false, false, false, false, false, false, false, false, false, false, false, false, false, false, false, false, false, false, false] (by kernel_rfl) rfl rfl ⟨(blk_cell BK366.out 0).trans rfl, (blk_cell BK366.out 1).trans rfl, (blk_cell BK366.out 2).trans rfl, (blk_cell BK366.out 3).trans rfl, (blk_cell BK366.out 4).trans rfl, ((HB.out.cell (World.block_lt_of_cell? w _ hw367_0)).trans hw367_0), ((HB.out.cell (World.block_lt_of_cell? w _ hw367_1)).trans hw367_1), ((HB.out.cell (World.block_lt_of_cell? w _ hw367_2)).trans hw367_2), ((HB.out.cell (World.block_lt_of_cell? w _ hw367_3)).trans hw367_3)⟩ (fun hHeld => ?_); refine with_tabW salchowlaw10_placed.tab6 salchowlaw10_placed.bits6 (fun HT_ HW_ => ?_)
          generalize w16.drew = w17 at BK366 HB hx367_0 hx367_1 hx367_2 hx367_3 hHeld ⊢
          refine pr_ (i := 0) (N := some 20) #[true, false, false, false, false, false, false, false, false, false, false, false, false, false, false, false, false, false, false, false, false, false, false, false, false, false, false, false, false] (any_of HT_.out (by kernel_rfl)) ?_
          refine pr_ (i := 1) (N := some 21) #[true, true, false, false, false, false, false, false, false, false, false, false, false, false, false, false, false, false, false, false, false, false, false, false, false, false, false, false, false] (any_of HT_.out (by kernel_rfl)) ?_
          refine pr_ (i := 6) (N := some 26) #[true, true, false, false, false, false, true, false, false, false, false, false, false, false, false, false, false, false, false, false, false, false, false, false, false, false, false, false, false] (any_of HT_.out (by kernel_rfl)) ?_
          refine pr_ (i := 7) (N := some 27) #[true, true, false, false, false, false, true, true, false, false, false, false, false, false, false, false, false, false, false, false, false, false, false, false, false, false, false, false, false] (any_of HT_.out (by kernel_rfl)) ?_
          refine take_ (i := 2) (N := some 22) (v := ?_) (a' := ?_) #[true, true, true, false, false, false, true, true, false, false, false, false, false, false, false, false, false, false, false, false, false, false, false, false, false, false, false, false, false] rfl rfl (take_ofW HT_.out HW_.out (by kernel_rfl)) (fun _ _ _ h => h) (Or.inl ⟨by rfl, ?_⟩) hHeld ?_ ?_
          rotate_left
          ·
           rintro w' ⟨s0, s1, s2, s3, s4, s5, s6, s7, s8⟩
           go_simp
           with_reducible rfl
          rotate_left
          ·
           simp only [Act.put, List.setIfInBounds_toArray, List.set_cons_zero, List.set_cons_succ, i64_w, i32_w]
           rfl
          refine pr_ (i := 3) (N := some 23) #[true, true, true, true, false, false, true, true, false, false, false, false, false, false, false, false, false, false, false, false, false, false, false, false, false, false, false, false, false] (any_of HT_.out (by kernel_rfl)) ?_
          refine pr_ (i := 4) (N := some 24) #[true, true, true, true, true, false, true, true, false, false, false, false, false, false, false, false, false, false, false, false, false, false, false, false, false, false, false, false, false] (any_of HT_.out (by kernel_rfl)) ?_
          refine pr_ (i := 5) (N := some 25) #[true, true, true, true, true, true, true, true, false, false, false, false, false, false, false, false, false, false, false, false, false, false, false, false, false, false, false, false, false] (any_of HT_.out (by kernel_rfl)) ?_
          refine pr_ (i := 8) (N := some 28) #[true, true, true, true, true, true, true, true, true, false, false, false, false, false, false, false, false, false, false, false, false, false, false, false, false, false, false, false, false] (any_of HT_.out (by kernel_rfl)) ?_
          refine pr_ (i := 9) (N := some 29) #[true, true, true, true, true, true, true, true, true, true, false, false, false, false, false, false, false, false, false, false, false, false, false, false, false, false, false, false, false] (any_of HT_.out (by kernel_rfl)) ?_
          refine pr_ (i := 10) (N := some 30) #[true, true, true, true, true, true, true, true, true, true, true, false, false, false, false, false, false, false, false, false, false, false, false, false, false, false, false, false, false] (any_of HT_.out (by kernel_rfl)) ?_
          refine pr_ (i := 11) (N := some 31) #[true, true, true, true, true, true, true, true, true, true, true, true, false, false, false, false, false, false, false, false, false, false, false, false, false, false, false, false, false] (any_of HT_.out (by kernel_rfl)) ?_
          refine pr_ (i := 12) (N := some 32) #[true, true, true, true, true, true, true, true, true, true, true, true, true, false, false, false, false, false, false, false, false, false, false, false, false, false, false, false, false] (any_of HT_.out (by kernel_rfl)) ?_
          refine pr_ (i := 13) (N := some 33) #[true, true, true, true, true, true, true, true, true, true, true, true, true, true, false, false, false, false, false, false, false, false, false, false, false, false, false, false, false] (any_of HT_.out (by kernel_rfl)) ?_
          refine pr_ (i := 15) (N := some 35) #[true, true, true, true, true, true, true, true, true, true, true, true, true, true, false, true, false, false, false, false, false, false, false, false, false, false, false, false, false] (any_of HT_.out (by kernel_rfl)) ?_
          refine take_ (i := 14) (N := some 34) (v := ?_) (a' := ?_) #[true, true, true, true, true, true, true, true, true, true, true, true, true, true, true, true, false, false, false, false, false, false, false, false, false, false, false, false, false] rfl rfl (take_ofW HT_.out HW_.out (by kernel_rfl)) (fun _ _ _ h => h) (Or.inl ⟨by rfl, ?_⟩) hHeld ?_ ?_
          rotate_left
          ·
           rintro w' ⟨s0, s1, s2, s3, s4, s5, s6, s7, s8⟩
           go_simp
           with_reducible rfl
          rotate_left
          ·
           simp only [Act.put, List.setIfInBounds_toArray, List.set_cons_zero, List.set_cons_succ, i64_w, i32_w]
           rfl
          refine take_ (i := 16) (N := some 36) (v := ?_) (a' := ?_) #[true, true, true, true, true, true, true, true, true, true, true, true, true, true, true, true, true, false, false, false, false, false, false, false, false, false, false, false, false] rfl rfl (take_ofW HT_.out HW_.out (by kernel_rfl)) (fun _ _ _ h => h) (Or.inl ⟨by rfl, ?_⟩) hHeld ?_ ?_
          rotate_left
          ·
           rintro w' ⟨s0, s1, s2, s3, s4, s5, s6, s7, s8⟩
           go_simp
           with_reducible rfl
          rotate_left
          ·
           simp only [Act.put, List.setIfInBounds_toArray, List.set_cons_zero, List.set_cons_succ, i64_w, i32_w]
           rfl
          refine pr_ (i := 17) (N := some 37) #[true, true, true, true, true, true, true, true, true, true, true, true, true, true, true, true, true, true, false, false, false, false, false, false, false, false, false, false, false] (any_of HT_.out (by kernel_rfl)) ?_
          refine pr_ (i := 18) (N := some 38) #[true, true, true, true, true, true, true, true, true, true, true, true, true, true, true, true, true, true, true, false, false, false, false, false, false, false, false, false, false] (any_of HT_.out (by kernel_rfl)) ?_
          refine pr_ (i := 19) (N := some 39) #[true, true, true, true, true, true, true, true, true, true, true, true, true, true, true, true, true, true, true, true, false, false, false, false, false, false, false, false, false] (any_of HT_.out (by kernel_rfl)) ?_
          refine pure_ (i := 20) (N := some 40) (v := undef) (a' := ?_) #[true, true, true, true, true, true, true, true, true, true, true, true, true, true, true, true, true, true, true, true, true, false, false, false, false, false, false, false, false] rfl rfl (any_of HT_.out (by kernel_rfl)) (fun _ _ _ h => h) (Or.inr ⟨by rfl, rfl⟩) ?_ ?_
          rotate_left
          ·
           simp only [Act.put, List.setIfInBounds_toArray, List.set_cons_zero, List.set_cons_succ, i64_w, i32_w]
           rfl
          refine pure_ (i := 21) (N := some 41) (v := undef) (a' := ?_) #[true, true, true, true, true, true, true, true, true, true, true, true, true, true, true, true, true, true, true, true, true, true, false, false, false, false, false, false, false] rfl rfl (any_of HT_.out (by kernel_rfl)) (fun _ _ _ h => h) (Or.inr ⟨by rfl, rfl⟩) ?_ ?_
          rotate_left
          ·
           simp only [Act.put, List.setIfInBounds_toArray, List.set_cons_zero, List.set_cons_succ, i64_w, i32_w]
           rfl
          refine pure_ (i := 22) (N := some 42) (v := undef) (a' := ?_) #[true, true, true, true, true, true, true, true, true, true, true, true, true, true, true, true, true, true, true, true, true, true, true, false, false, false, false, false, false] rfl rfl (any_of HT_.out (by kernel_rfl)) (fun _ _ _ h => h) (Or.inr ⟨by rfl, rfl⟩) ?_ ?_
          rotate_left
          ·
           simp only [Act.put, List.setIfInBounds_toArray, List.set_cons_zero, List.set_cons_succ, i64_w, i32_w]
           rfl
          refine pure_ (i := 23) (N := some 43) (v := undef) (a' := ?_) #[true, true, true, true, true, true, true, true, true, true, true, true, true, true, true, true, true, true, true, true, true, true, true, true, false, false, false, false, false] rfl rfl (any_of HT_.out (by kernel_rfl)) (fun _ _ _ h => h) (Or.inr ⟨by rfl, rfl⟩) ?_ ?_
          rotate_left
          ·
           simp only [Act.put, List.setIfInBounds_toArray, List.set_cons_zero, List.set_cons_succ, i64_w, i32_w]
           rfl
          refine pure_ (i := 24) (N := some 44) (v := undef) (a' := ?_) #[true, true, true, true, true, true, true, true, true, true, true, true, true, true, true, true, true, true, true, true, true, true, true, true, true, false, false, false, false] rfl rfl (any_of HT_.out (by kernel_rfl)) (fun _ _ _ h => h) (Or.inr ⟨by rfl, rfl⟩) ?_ ?_
          rotate_left
          ·
           simp only [Act.put, List.setIfInBounds_toArray, List.set_cons_zero, List.set_cons_succ, i64_w, i32_w]
           rfl
          refine pure_ (i := 25) (N := some 45) (v := undef) (a' := ?_) #[true, true, true, true, true, true, true, true, true, true, true, true, true, true, true, true, true, true, true, true, true, true, true, true, true, true, false, false, false] rfl rfl (any_of HT_.out (by kernel_rfl)) (fun _ _ _ h => h) (Or.inr ⟨by rfl, rfl⟩) ?_ ?_
          rotate_left
          ·
           simp only [Act.put, List.setIfInBounds_toArray, List.set_cons_zero, List.set_cons_succ, i64_w, i32_w]
           rfl
          refine pure_ (i := 26) (N := some 46) (v := undef) (a' := ?_) #[true, true, true, true, true, true, true, true, true, true, true, true, true, true, true, true, true, true, true, true, true, true, true, true, true, true, true, false, false] rfl rfl (any_of HT_.out (by kernel_rfl)) (fun _ _ _ h => h) (Or.inr ⟨by rfl, rfl⟩) ?_ ?_
          rotate_left
          ·
           simp only [Act.put, List.setIfInBounds_toArray, List.set_cons_zero, List.set_cons_succ, i64_w, i32_w]
           rfl
          refine pure_ (i := 27) (N := some 47) (v := undef) (a' := ?_) #[true, true, true, true, true, true, true, true, true, true, true, true, true, true, true, true, true, true, true, true, true, true, true, true, true, true, true, true, false] rfl rfl (any_of HT_.out (by kernel_rfl)) (fun _ _ _ h => h) (Or.inr ⟨by rfl, rfl⟩) ?_ ?_
          rotate_left
          ·
           simp only [Act.put, List.setIfInBounds_toArray, List.set_cons_zero, List.set_cons_succ, i64_w, i32_w]
           rfl
          refine pr_ (i := 28) (N := some 48) #[true, true, true, true, true, true, true, true, true, true, true, true, true, true, true, true, true, true, true, true, true, true, true, true, true, true, true, true, true] (any_of HT_.out (by kernel_rfl)) ?_
          refine done_ (done_of HT_.out (by kernel_rfl)) ?_
          try go_wp2
          go_meet
          case rel => exact ⟨_, (true), sr_, H', ⟨by have := HK1.out; first | omega | exact Nat.le_refl _⟩, ⟨by exact bk_ BK366.out⟩, ⟨bl1_ HB.out GE366.out⟩⟩
        ·
         rw [if_neg c12] at H
         exact absurd H (by simp)
       ·
        rw [if_neg c11] at H
        exact absurd H (by simp)
     case rest =>
      clear HC5
      try clear c1
      try clear p2
      try clear c3
      try clear p3
      try clear q3
      try clear hx3
      try clear p6
      try clear c8
      try clear c8b0
      try clear c11
      try clear c11b0
      try clear c12
      try clear c12b0
      try clear c13
      try clear c13b0
      try clear c13b1
      try clear hx367_0
      try clear hx367_1
      try clear hx367_2
      try clear hx367_3
      try clear hx368_0
      try clear hx368_1
      try clear hx368_2
      try clear hx368_3
      try clear p367
      try clear p368
      try clear q367
      try clear q368
      obtain ⟨kq, x48_4, rfl, HA, HJ4, BK366, HB⟩ := hcut
      cases kq with
      | zero => exact absurd HA.out (by simp [salchowlaw10_placed.j1])
      | succ kj4 =>
       have H := HA.out
       clear HA
       simp only [salchowlaw10_placed.j1] at H
       by_cases c18 : x48_4 = true
       ·
        subst c18
        have H1 : (none) = some r := by rw [if_pos rfl] at H; exact H
        clear H
        have H := H1
        clear H1
        exact absurd H (by simp)
       ·
        replace c18 := Bool.eq_false_iff.mpr c18
        subst c18
        have H1 : (salchowlaw10_placed.l1 kj4 l0 l1 x5_1 x6_1 0 ((rd_T41 l0 x6_1).f0) ((rd_T41 l0 x6_1).f1) ((rd_T41 l0 x6_1).f2) ((rd_T41 l0 x6_1).f3) ((rd_T41 l0 x6_1).f4)) = some r := by rw [if_neg (show ¬ (false = true) by decide)] at H; exact H
        clear H
        have H := H1
        clear H1
        have H' := Aside0.mk H
        clear H
        go_wp2
        go_loopg [8] kj4 (fun kq v8 w' => ∃ (x8_3 : Int), v8 = .int .i64 x8_3 ∧ Aside0 (salchowlaw10_placed.l1 kq l0 l1 x5_1 x6_1 x8_3 ((rd_T41 l0 x6_1).f0) ((rd_T41 l0 x6_1).f1) ((rd_T41 l0 x6_1).f2) ((rd_T41 l0 x6_1).f3) ((rd_T41 l0 x6_1).f4) = some r) ∧ Aside0 (kq ≤ kj4) ∧ Aside0 (w'.heap[gb366]? = some (.cells #[.string ((rd_T41 l0 x6_1).f0), (.slice A365_1 ((rd_T41 l0 x6_1).f1).length c365_1), .bool ((rd_T41 l0 x6_1).f2), (.slice A365_3 ((rd_T41 l0 x6_1).f3).length c365_3), .int .i64 ((rd_T41 l0 x6_1).f4)] 41 (0, 0))) ∧ Aside0 (Below w.heap.size w w'))
        case atStart => exact ⟨(0), sr_, H', ⟨Nat.le_refl _⟩, ⟨by exact bk_ BK366.out⟩, ⟨bl1_ HB.out GE366.out⟩⟩
        case round =>
         clear H'
         try clear c1
         try clear p2
         try clear c3
         try clear p3
         try clear q3
         try clear hx3
         try clear p6
         try clear c8
         try clear c8b0
         try clear c11
         try clear c11b0
         try clear c12
         try clear c12b0
         try clear c13
         try clear c13b0
         try clear c13b1
         try clear c18
         try clear hx367_0
         try clear hx367_1
         try clear hx367_2
         try clear hx367_3
         try clear hx368_0
         try clear hx368_1
         try clear hx368_2
         try clear hx368_3
         try clear p2
         try clear p3
         try clear p367
         try clear p368
         try clear p6
         try clear q3
         try clear q367
         try clear q368
         obtain ⟨x8_3, rfl, HA, HK3, BK366, HB⟩ := hrel
         cases gk with
         | zero => exact absurd HA.out (by simp [salchowlaw10_placed.l1])
         | succ k3 =>
          have H := HA.out
          clear HA
          simp only [salchowlaw10_placed.l1] at H
          by_cases c19 : x8_3 < (((rd_T41 l0 x6_1).f1).length : Int)
          ·
           rw [if_pos c19] at H
           have c19b0 := decide_eq_true c19
           clear c19
           obtain ⟨ji20, hji20⟩ : ∃ j_ : Int, (wrap64 ((wrap64 (x5_1 + 1)) + x8_3)) = j_ := ⟨_, rfl⟩
           replace H : (if 0 ≤ (ji20) then (if (ji20) < (l1.length : Int) then (if 0 ≤ x8_3 then (if (!(((rd_T46 l1 (ji20)).f0) == ((rd_T46 ((rd_T41 l0 x6_1).f1) x8_3).f0)) || (!((((rd_T46 l1 (ji20)).f1).toList) == (((rd_T46 ((rd_T41 l0 x6_1).f1) x8_3).f1).toList)) || (!(((rd_T46 l1 (ji20)).f2) == ((rd_T46 ((rd_T41 l0 x6_1).f1) x8_3).f2)) || (!(((rd_T46 l1 (ji20)).f3) == ((rd_T46 ((rd_T41 l0 x6_1).f1) x8_3).f3)))))) = true then (none) else (salchowlaw10_placed.l1 k3 l0 l1 x5_1 x6_1 (wrap64 (x8_3 + 1)) ((rd_T41 l0 x6_1).f0) ((rd_T41 l0 x6_1).f1) ((rd_T41 l0 x6_1).f2) ((rd_T41 l0 x6_1).f3) ((rd_T41 l0 x6_1).f4))) else (none)) else (none)) else (none)) = some r := by first | (rw [hji20] at H; exact H) | (simp only [hji20] at H ⊢; exact H)
           have hji20w : (IntKind.i64.wrap ((wrap64 (x5_1 + 1)) + x8_3)) = ji20 := (i64_w _).trans hji20
           by_cases c21 : 0 ≤ (ji20)
           ·
            rw [if_pos c21] at H
            have c21b0 := decide_eq_true c21
            clear c21
            by_cases c22 : (ji20) < (l1.length : Int)
            ·
             rw [if_pos c22] at H
             have c22b0 := decide_eq_true c22
             clear c22
             by_cases c23 : 0 ≤ x8_3
             ·
              rw [if_pos c23] at H
              have c23b0 := decide_eq_true c23
              clear c23
              by_cases c24 : (!(((rd_T46 l1 (ji20)).f0) == ((rd_T46 ((rd_T41 l0 x6_1).f1) x8_3).f0)) || (!((((rd_T46 l1 (ji20)).f1).toList) == (((rd_T46 ((rd_T41 l0 x6_1).f1) x8_3).f1).toList)) || (!(((rd_T46 l1 (ji20)).f2) == ((rd_T46 ((rd_T41 l0 x6_1).f1) x8_3).f2)) || (!(((rd_T46 l1 (ji20)).f3) == ((rd_T46 ((rd_T41 l0 x6_1).f1) x8_3).f3)))))) = true
              ·
               rw [if_pos c24] at H
               exact absurd H (by simp)
              ·
               rw [if_neg c24] at H
               have c24b0 : (!(((rd_T46 l1 (ji20)).f0) == ((rd_T46 ((rd_T41 l0 x6_1).f1) x8_3).f0)) || (!((((rd_T46 l1 (ji20)).f1).toList) == (((rd_T46 ((rd_T41 l0 x6_1).f1) x8_3).f1).toList)) || (!(((rd_T46 l1 (ji20)).f2) == ((rd_T46 ((rd_T41 l0 x6_1).f1) x8_3).f2)) || (!(((rd_T46 l1 (ji20)).f3) == ((rd_T46 ((rd_T41 l0 x6_1).f1) x8_3).f3)))))) = false := by simpa using c24
               clear c24
               have H' := Aside0.mk H
               clear H
               have hcz25_0 := cz_ (.string ((rd_T41 l0 x6_1).f0)) BK366.out 0
               have hcz25_1 := cz_ (.slice A365_1 ((rd_T41 l0 x6_1).f1).length c365_1) BK366.out 1
               have hcz25_2 := cz_ (.bool ((rd_T41 l0 x6_1).f2)) BK366.out 2
               have hcz25_3 := cz_ (.slice A365_3 ((rd_T41 l0 x6_1).f3).length c365_3) BK366.out 3
               have hcz25_4 := cz_ (.int .i64 ((rd_T41 l0 x6_1).f4)) BK366.out 4
               have hfz25_0 := blk_frozen BK366.out 0
               have hfz25_1 := blk_frozen BK366.out 1
               have hfz25_2 := blk_frozen BK366.out 2
               have hfz25_3 := blk_frozen BK366.out 3
               have hfz25_4 := blk_frozen BK366.out 4
               try go_wp2
               refine cut2_ (blk_drew BK366.out) (below_drew1 HB.out) ?_
               clear BK366 HB
               intro BK366 HB
               have p369 : 0 ≤ ((ji20) : Int) := dt_
               have q369 : (ji20) < (l1.length : Int) := dt_
               obtain ⟨ad369, e369, hx369_0, hx369_1, hx369_2, hx369_3⟩ := at_T46 HR1.out (ji20) p369 q369
               have hw369_3 := hx369_3
               have hw369_2 := hx369_2
               have hw369_1 := hx369_1
               have hw369_0 := hx369_0
               cases e369
               replace hx369_0 := pw_cell_below HB.out hx369_0
               replace hx369_1 := pw_cell_below HB.out hx369_1
               replace hx369_2 := pw_cell_below HB.out hx369_2
               replace hx369_3 := pw_cell_below HB.out hx369_3
               replace p369 := eq_true p369
               replace q369 := eq_true q369
               have p370 : 0 ≤ (x8_3 : Int) := dt_
               have q370 : x8_3 < (((rd_T41 l0 x6_1).f1).length : Int) := dt_
               obtain ⟨ad370, e370, hx370_0, hx370_1, hx370_2, hx370_3⟩ := at_T46 HR365_1.out x8_3 p370 q370
               have hw370_3 := hx370_3
               have hw370_2 := hx370_2
               have hw370_1 := hx370_1
               have hw370_0 := hx370_0
               cases e370
               replace hx370_0 := pw_cell_below HB.out hx370_0
               replace hx370_1 := pw_cell_below HB.out hx370_1
               replace hx370_2 := pw_cell_below HB.out hx370_2
               replace hx370_3 := pw_cell_below HB.out hx370_3
               replace p370 := eq_true p370
               replace q370 := eq_true q370
               refine start_ (n := 13) (S := fun w' => w'.cell? ⟨gb366, 0, none⟩ = some (.string ((rd_T41 l0 x6_1).f0)) ∧ w'.cell? ⟨gb366, 1, none⟩ = some (.slice (some ad370) ((rd_T41 l0 x6_1).f1).length c365_1) ∧ w'.cell? ⟨gb366, 2, none⟩ = some (.bool ((rd_T41 l0 x6_1).f2)) ∧ w'.cell? ⟨gb366, 3, none⟩ = some (.slice A365_3 ((rd_T41 l0 x6_1).f3).length c365_3) ∧ w'.cell? ⟨gb366, 4, none⟩ = some (.int .i64 ((rd_T41 l0 x6_1).f4)) ∧ w'.cell? (ad369.add (((ji20)).toNat * 4)) = some (.int .i64 ((rd_T46 l1 (ji20)).f0)) ∧ w'.cell? ⟨(ad369.add (((ji20)).toNat * 4)).block, (ad369.add (((ji20)).toNat * 4)).off + 1, none⟩ = some (.string ((rd_T46 l1 (ji20)).f1)) ∧ w'.cell? ⟨(ad369.add (((ji20)).toNat * 4)).block, (ad369.add (((ji20)).toNat * 4)).off + 2, none⟩ = some (.int .i64 ((rd_T46 l1 (ji20)).f2)) ∧ w'.cell? ⟨(ad369.add (((ji20)).toNat * 4)).block, (ad369.add (((ji20)).toNat * 4)).off + 3, none⟩ = some (.int .i64 ((rd_T46 l1 (ji20)).f3)) ∧ w'.cell? (ad370.add ((x8_3).toNat * 4)) = some (.int .i64 ((rd_T46 ((rd_T41 l0 x6_1).f1) x8_3).f0)) ∧ w'.cell? ⟨(ad370.add ((x8_3).toNat * 4)).block, (ad370.add ((x8_3).toNat * 4)).off + 1, none⟩ = some (.string ((rd_T46 ((rd_T41 l0 x6_1).f1) x8_3).f1)) ∧ w'.cell? ⟨(ad370.add ((x8_3).toNat * 4)).block, (ad370.add ((x8_3).toNat * 4)).off + 2, none⟩ = some (.int .i64 ((rd_T46 ((rd_T41 l0 x6_1).f1) x8_3).f2)) ∧ w'.cell? ⟨(ad370.add ((x8_3).toNat * 4)).block, (ad370.add ((x8_3).toNat * 4)).off + 3, none⟩ = some (.int .i64 ((rd_T46 ((rd_T41 l0 x6_1).f1) x8_3).f3))) (ds := []) #[false, false, false, false, false, false, false, false, false, false, false, false, false] (by kernel_rfl) rfl rfl ⟨(blk_cell BK366.out 0).trans rfl, (blk_cell BK366.out 1).trans rfl, (blk_cell BK366.out 2).trans rfl, (blk_cell BK366.out 3).trans rfl, (blk_cell BK366.out 4).trans rfl, ((HB.out.cell (World.block_lt_of_cell? w _ hw369_0)).trans hw369_0), ((HB.out.cell (World.block_lt_of_cell? w _ hw369_1)).trans hw369_1), ((HB.out.cell (World.block_lt_of_cell? w _ hw369_2)).trans hw369_2), ((HB.out.cell (World.block_lt_of_cell? w _ hw369_3)).trans hw369_3), ((HB.out.cell (World.block_lt_of_cell? w _ hw370_0)).trans hw370_0), ((HB.out.cell (World.block_lt_of_cell? w _ hw370_1)).trans hw370_1), ((HB.out.cell (World.block_lt_of_cell? w _ hw370_2)).trans hw370_2), ((HB.out.cell (World.block_lt_of_cell? w _ hw370_3)).trans hw370_3)⟩ (fun hHeld => ?_); refine with_tabW salchowlaw10_placed.tab11 salchowlaw10_placed.bits11 (fun HT_ HW_ => ?_)
               generalize wr.drew = w26 at BK366 HB hx369_0 hx369_1 hx369_2 hx369_3 hx370_0 hx370_1 hx370_2 hx370_3 hHeld ⊢
               refine pr_ (i := 0) (N := some 56) #[true, false, false, false, false, false, false, false, false, false, false, false, false] (any_of HT_.out (by kernel_rfl)) ?_
               refine pr_ (i := 1) (N := some 57) #[true, true, false, false, false, false, false, false, false, false, false, false, false] (any_of HT_.out (by kernel_rfl)) ?_
               refine pr_ (i := 2) (N := some 58) #[true, true, true, false, false, false, false, false, false, false, false, false, false] (any_of HT_.out (by kernel_rfl)) ?_
               refine pr_ (i := 3) (N := some 59) #[true, true, true, true, false, false, false, false, false, false, false, false, false] (any_of HT_.out (by kernel_rfl)) ?_
               refine pr_ (i := 4) (N := some 60) #[true, true, true, true, true, false, false, false, false, false, false, false, false] (any_of HT_.out (by kernel_rfl)) ?_
               refine pr_ (i := 5) (N := some 61) #[true, true, true, true, true, true, false, false, false, false, false, false, false] (any_of HT_.out (by kernel_rfl)) ?_
               refine pr_ (i := 7) (N := some 63) #[true, true, true, true, true, true, false, true, false, false, false, false, false] (any_of HT_.out (by kernel_rfl)) ?_
               refine pr_ (i := 9) (N := some 65) #[true, true, true, true, true, true, false, true, false, true, false, false, false] (any_of HT_.out (by kernel_rfl)) ?_
               refine take_ (i := 6) (N := some 62) (v := ?_) (a' := ?_) #[true, true, true, true, true, true, true, true, false, true, false, false, false] rfl rfl (take_ofW HT_.out HW_.out (by kernel_rfl)) (fun _ _ _ h => h) (Or.inl ⟨by rfl, ?_⟩) hHeld ?_ ?_
               rotate_left
               ·
                rintro w' ⟨s0, s1, s2, s3, s4, s5, s6, s7, s8, s9, s10, s11, s12⟩
                go_simp
                with_reducible rfl
               rotate_left
               ·
                simp only [Act.put, List.setIfInBounds_toArray, List.set_cons_zero, List.set_cons_succ, i64_w, i32_w]
                rfl
               refine take_ (i := 8) (N := some 64) (v := ?_) (a' := ?_) #[true, true, true, true, true, true, true, true, true, true, false, false, false] rfl rfl (take_ofW HT_.out HW_.out (by kernel_rfl)) (fun _ _ _ h => h) (Or.inl ⟨by rfl, ?_⟩) hHeld ?_ ?_
               rotate_left
               ·
                rintro w' ⟨s0, s1, s2, s3, s4, s5, s6, s7, s8, s9, s10, s11, s12⟩
                go_simp
                with_reducible rfl
               rotate_left
               ·
                simp only [Act.put, List.setIfInBounds_toArray, List.set_cons_zero, List.set_cons_succ, i64_w, i32_w]
                rfl
               refine pr_ (i := 10) (N := some 66) #[true, true, true, true, true, true, true, true, true, true, true, false, false] (any_of HT_.out (by kernel_rfl)) ?_
               refine take_ (i := 11) (N := some 67) (v := ?_) (a' := ?_) #[true, true, true, true, true, true, true, true, true, true, true, true, false] rfl rfl (take_ofW HT_.out HW_.out (by kernel_rfl)) (fun _ _ _ h => h) (Or.inl ⟨by rfl, ?_⟩) hHeld ?_ ?_
               rotate_left
               ·
                rintro w' ⟨s0, s1, s2, s3, s4, s5, s6, s7, s8, s9, s10, s11, s12⟩
                go_simp
                with_reducible rfl
               rotate_left
               ·
                simp only [Act.put, List.setIfInBounds_toArray, List.set_cons_zero, List.set_cons_succ, i64_w, i32_w]
                rfl
               refine pr_ (i := 12) (N := some 68) #[true, true, true, true, true, true, true, true, true, true, true, true, true] (any_of HT_.out (by kernel_rfl)) ?_
               refine done_ (done_of HT_.out (by kernel_rfl)) ?_
               try go_wp2
               go_roundg k3
               case measure => have := HK1.out; have := HJ4.out; have := HK3.out; omega
               case rel => exact ⟨(wrap64 (x8_3 + 1)), sr_, H', ⟨by have := HK1.out; have := HJ4.out; have := HK3.out; omega⟩, ⟨by exact bk_ BK366.out⟩, ⟨bl1_ HB.out GE366.out⟩⟩
             ·
              rw [if_neg c23] at H
              exact absurd H (by simp)
            ·
             rw [if_neg c22] at H
             exact absurd H (by simp)
           ·
            rw [if_neg c21] at H
            exact absurd H (by simp)
          ·
           rw [if_neg c19] at H
           have c19b0 := decide_eq_false c19
           clear c19
           by_cases c27 : ((rd_T41 l0 x6_1).f2) = true
           ·
            rw [if_pos c27] at H
            have c27b0 : ((rd_T41 l0 x6_1).f2) = true := c27
            clear c27
            obtain ⟨ji28, hji28⟩ : ∃ j_ : Int, (wrap64 (x5_1 + (wrap64 ((((rd_T41 l0 x6_1).f1).length : Int) + 2)))) = j_ := ⟨_, rfl⟩
            replace H : (if 0 ≤ (ji28) then (if (ji28) ≤ (l1.length : Int) then ((salchowlaw10_placed.f k3 ((rd_T41 l0 x6_1).f3) (l1.drop ((ji28) : Int).toNat)).bind fun t375 => (if t375 < 0 then (none) else (if (wrap64 ((ji28) + (wrap64 (t375 + 1)))) > (l1.length : Int) then (none) else (salchowlaw10_placed.l0 k3 l0 l1 (wrap64 ((ji28) + (wrap64 (t375 + 1)))) (wrap64 (x6_1 + 1)))))) else (none)) else (none)) = some r := by first | (rw [hji28] at H; exact H) | (simp only [hji28] at H ⊢; exact H)
            have hji28w : (IntKind.i64.wrap (x5_1 + (wrap64 ((((rd_T41 l0 x6_1).f1).length : Int) + 2)))) = ji28 := (i64_w _).trans hji28
            by_cases c29 : 0 ≤ (ji28)
            ·
             rw [if_pos c29] at H
             have c29b0 := eq_true c29
             have c29b1 := decide_eq_true c29
             clear c29
             by_cases c30 : (ji28) ≤ (l1.length : Int)
             ·
              rw [if_pos c30] at H
              have c30b0 := eq_true c30
              have c30b1 := decide_eq_true c30
              clear c30
              obtain ⟨y371, hy371⟩ : ∃ y_ : List (S46), y_ = (l1.drop ((ji28) : Int).toNat) := ⟨_, rfl⟩
              replace H : ((salchowlaw10_placed.f k3 ((rd_T41 l0 x6_1).f3) y371).bind fun t375 => (if t375 < 0 then (none) else (if (wrap64 ((ji28) + (wrap64 (t375 + 1)))) > (l1.length : Int) then (none) else (salchowlaw10_placed.l0 k3 l0 l1 (wrap64 ((ji28) + (wrap64 (t375 + 1)))) (wrap64 (x6_1 + 1)))))) = some r := by first | (rw [hy371]; with_reducible exact H) | (have H2_ := (Option.bind_some _ _).symm.trans H; rw [hy371]; with_reducible exact H2_) | (have H2_ := (Option.bind_some _ _).symm.trans H; with_reducible exact H2_) | with_reducible exact H | (rw [hy371]; exact H) | exact H
              have Ny371 := Aside0.mk hy371
              clear hy371
              replace H := Option.bind_eq_some_iff.mp H
              obtain ⟨t375, A310, H⟩ := H
              (try dsimp only at H)
              have A31 := Aside0.mk A310
              clear A310
              by_cases c32 : t375 < 0
              ·
               rw [if_pos c32] at H
               exact absurd H (by simp)
              ·
               rw [if_neg c32] at H
               have c32b0 := decide_eq_false c32
               clear c32
               by_cases c33 : (wrap64 ((ji28) + (wrap64 (t375 + 1)))) > (l1.length : Int)
               ·
                rw [if_pos c33] at H
                exact absurd H (by simp)
               ·
                rw [if_neg c33] at H
                have c33b0 := decide_eq_false c33
                clear c33
                have H' := Aside0.mk H
                clear H
                have hcz34_0 := cz_ (.string ((rd_T41 l0 x6_1).f0)) BK366.out 0
                have hcz34_1 := cz_ (.slice A365_1 ((rd_T41 l0 x6_1).f1).length c365_1) BK366.out 1
                have hcz34_2 := cz_ (.bool ((rd_T41 l0 x6_1).f2)) BK366.out 2
                have hcz34_3 := cz_ (.slice A365_3 ((rd_T41 l0 x6_1).f3).length c365_3) BK366.out 3
                have hcz34_4 := cz_ (.int .i64 ((rd_T41 l0 x6_1).f4)) BK366.out 4
                have hfz34_0 := blk_frozen BK366.out 0
                have hfz34_1 := blk_frozen BK366.out 1
                have hfz34_2 := blk_frozen BK366.out 2
                have hfz34_3 := blk_frozen BK366.out 3
                have hfz34_4 := blk_frozen BK366.out 4
                try go_wp2
                refine cut2_ (blk_drew BK366.out) (below_drew1 HB.out) ?_
                clear BK366 HB
                intro BK366 HB
                have q36 : ((ji28) : Int) ≤ ((l1.length : Int) : Int) := dt_
                obtain ⟨i036, hi036, _, hsz36, _⟩ := info_parts info46
                have hroom36 : l1.length ≤ c1 := HC1.out
                have hC36 : Kd.C k46 _ A1 l1.length l1 := HR1.out
                have q036 : (0 : Int) ≤ ((ji28) : Int) := dt_
                have hcut36 := cut_from (P := Tryd.prog) 31 46 .i64 Tryd.underlying31 hi036 4 hsz36 A1 l1.length c1 (ji28) q036 q36
                have hr36 := Kd.C_drop (m := ((ji28) : Int).toNat) (c := c1) hC36 (by omega) hroom36
                obtain ⟨A36, hA36⟩ : ∃ Aq_, Aq_ = (if c1 = ((ji28) : Int).toNat then A1 else (A1 : Option Addr).map (·.add (((ji28) : Int).toNat * 4))) := ⟨_, rfl⟩
                obtain ⟨c36, hc36⟩ : ∃ cq_, cq_ = c1 - ((ji28) : Int).toNat := ⟨_, rfl⟩
                have hy36 : y371.length = l1.length - ((ji28) : Int).toNat := (by rw [Ny371.out, List.length_drop] <;> omega)
                rw [show (l1).drop ((ji28) : Int).toNat = y371 from Ny371.out.symm] at hr36
                replace hr36 : Kd.C k46 _ A36 y371.length y371 := (by rw [hA36]; exact hr36)
                rw [← hy36, ← hA36, ← hc36] at hcut36
                have HR374 := Aside0.mk hr36
                have HC374 := Aside0.mk (show y371.length ≤ c36 from by rw [hy36, hc36]; exact Nat.sub_le_sub_right hroom36 _)
                clear hr36 hC36 hroom36 hi036 hsz36 hc36
                have KY36 := Aside0.mk hy36
                have KA36 := Aside0.mk hA36
                clear hy36 hA36
                replace q36 := eq_true q36
                refine start_ (n := 7) (S := fun w' => w'.cell? ⟨gb366, 0, none⟩ = some (.string ((rd_T41 l0 x6_1).f0)) ∧ w'.cell? ⟨gb366, 1, none⟩ = some (.slice A365_1 ((rd_T41 l0 x6_1).f1).length c365_1) ∧ w'.cell? ⟨gb366, 2, none⟩ = some (.bool ((rd_T41 l0 x6_1).f2)) ∧ w'.cell? ⟨gb366, 3, none⟩ = some (.slice A365_3 ((rd_T41 l0 x6_1).f3).length c365_3) ∧ w'.cell? ⟨gb366, 4, none⟩ = some (.int .i64 ((rd_T41 l0 x6_1).f4))) (ds := []) #[false, false, false, false, false, false, false] (by kernel_rfl) rfl rfl ⟨(blk_cell BK366.out 0).trans rfl, (blk_cell BK366.out 1).trans rfl, (blk_cell BK366.out 2).trans rfl, (blk_cell BK366.out 3).trans rfl, (blk_cell BK366.out 4).trans rfl⟩ (fun hHeld => ?_)
                generalize wr.drew = w35 at BK366 HB HR374 hHeld ⊢
                refine pr_ (i := 0) (N := some 77) #[true, false, false, false, false, false, false] (by kernel_rfl) ?_
                refine pr_ (i := 2) (N := some 79) #[true, false, true, false, false, false, false] (by kernel_rfl) ?_
                refine pr_ (i := 3) (N := some 80) #[true, false, true, true, false, false, false] (by kernel_rfl) ?_
                refine pr_ (i := 4) (N := some 81) #[true, false, true, true, true, false, false] (by kernel_rfl) ?_
                refine take_ (i := 1) (N := some 78) (v := ?_) (a' := ?_) #[true, true, true, true, true, false, false] rfl rfl (by kernel_rfl) (fun _ _ _ h => h) (Or.inl ⟨by rfl, ?_⟩) hHeld ?_ ?_
                rotate_left
                ·
                 rintro w' ⟨s0, s1, s2, s3, s4⟩
                 go_simp
                 with_reducible rfl
                rotate_left
                ·
                 simp only [Act.put, List.setIfInBounds_toArray, List.set_cons_zero, List.set_cons_succ, i64_w, i32_w]
                 rfl
                refine one_ (i := 5) (N := some 82) #[true, true, true, true, true, true, false] rfl rfl (by kernel_rfl) (by decide) (fun K hK => ?_)
                refine goes_ Tryd.func28 (by kernel_rfl) rfl #[.slice A365_3 ((rd_T41 l0 x6_1).f3).length c365_3, .slice A36 y371.length c36] (by rfl) rfl rfl ga_ ?_
                with_reducible refine (ih k3 (by have := HK1.out; have := HJ4.out; have := HK3.out; omega) _ _ ((rd_T41 l0 x6_1).f3) _ _ y371 t375 _ ?side1 ?side2 ?side3 ?side4 A31.out).mono ?_
                (case side1 => repeat (first | exact (Kd.C_below HR365_3.out HB.out) | (with_reducible refine Kd.C_alloc ?_ _) | (with_reducible refine Kd.C_drewN ?_ _) | (with_reducible refine Kd.C_drew ?_)))
                (case side2 => exact HC365_3.out)
                (case side3 => repeat (first | exact (Kd.C_below HR374.out HB.out) | (with_reducible refine Kd.C_alloc ?_ _) | (with_reducible refine Kd.C_drewN ?_ _) | (with_reducible refine Kd.C_drew ?_)))
                (case side4 => exact HC374.out)
                rintro e w37 ⟨rfl, hb⟩
                refine ⟨_, rfl, ?_⟩
                refine cut2_ (bb_ BK366.out hb) (below_step (bl1_ HB.out GE366.out) hb) ?_
                clear BK366 HB
                intro BK366 HB
                (try clear hb)
                (try clear hb2)
                (try clear hk)
                (try clear hi)
                refine hK.out _ _ ⟨(blk_cell BK366.out 0).trans rfl, (blk_cell BK366.out 1).trans rfl, (blk_cell BK366.out 2).trans rfl, (blk_cell BK366.out 3).trans rfl, (blk_cell BK366.out 4).trans rfl⟩ (fun hHeld => ?_)
                clear hK K
                refine norm_ (a' := ?_) ?_ ?_
                rotate_left
                ·
                 show Act.put _ (some 82) _ = _
                 simp only [Act.put, List.setIfInBounds_toArray, List.set_cons_zero, List.set_cons_succ, i64_w, i32_w]
                 rfl
                refine pr_ (i := 6) (N := some 9) #[true, true, true, true, true, true, true] (by kernel_rfl) ?_
                refine done_ (by kernel_rfl) ?_
                try go_wp2
                go_roundg k3
                case measure => have := HK1.out; have := HJ4.out; have := HK3.out; omega
                case rel => exact ⟨(wrap64 ((ji28) + (wrap64 (t375 + 1)))), (wrap64 (x6_1 + 1)), (by first | rfl | (simp; done) | (simp only [← hji28] <;> (first | rfl | simp)) | (simp [*]; done)), sr_, H', ⟨by have := HK1.out; have := HJ4.out; have := HK3.out; omega⟩, ⟨bl1_ HB.out GE366.out⟩⟩
             ·
              rw [if_neg c30] at H
              exact absurd H (by simp)
            ·
             rw [if_neg c29] at H
             exact absurd H (by simp)
           ·
            rw [if_neg c27] at H
            have c27b0 : ((rd_T41 l0 x6_1).f2) = false := by simpa using c27
            clear c27
            by_cases c38 : (wrap64 (x5_1 + (wrap64 ((((rd_T41 l0 x6_1).f1).length : Int) + 2)))) > (l1.length : Int)
            ·
             rw [if_pos c38] at H
             exact absurd H (by simp)
            ·
             rw [if_neg c38] at H
             have c38b0 := decide_eq_false c38
             clear c38
             have H' := Aside0.mk H
             clear H
             have hcz39_0 := cz_ (.string ((rd_T41 l0 x6_1).f0)) BK366.out 0
             have hcz39_1 := cz_ (.slice A365_1 ((rd_T41 l0 x6_1).f1).length c365_1) BK366.out 1
             have hcz39_2 := cz_ (.bool ((rd_T41 l0 x6_1).f2)) BK366.out 2
             have hcz39_3 := cz_ (.slice A365_3 ((rd_T41 l0 x6_1).f3).length c365_3) BK366.out 3
             have hcz39_4 := cz_ (.int .i64 ((rd_T41 l0 x6_1).f4)) BK366.out 4
             have hfz39_0 := blk_frozen BK366.out 0
             have hfz39_1 := blk_frozen BK366.out 1
             have hfz39_2 := blk_frozen BK366.out 2
             have hfz39_3 := blk_frozen BK366.out 3
             have hfz39_4 := blk_frozen BK366.out 4
             go_wp2
             go_roundg k3
             case measure => have := HK1.out; have := HJ4.out; have := HK3.out; omega
             case rel => exact ⟨(wrap64 (x5_1 + (wrap64 ((((rd_T41 l0 x6_1).f1).length : Int) + 2)))), (wrap64 (x6_1 + 1)), sr_, sr_, H', ⟨by have := HK1.out; have := HJ4.out; have := HK3.out; omega⟩, ⟨bl1_ HB.out GE366.out⟩⟩
    ·
     rw [if_neg c4] at H
     exact absurd H (by simp)
   ·
    rw [if_neg c3] at H
    have c3b0 := decide_eq_false c3
    clear c3
    obtain rfl := Option.some.inj H
    go_wp2
    go_ret
    exact ⟨er_, bl_ HB.out⟩
end Go.Proofs.YtkifdadhojbohaaDoor.Pr
namespace Go.Proofs.YtkifdadhojbohaaDoor.Pr
open Go.Proofs.YtkifdadhojbohaaDoor
open Go.RowKit Go.Proofs.YtkifdadhojbohaaDoorW.PrintWords Go.Proofs.YtkifdadhojbohaaDoorW.PrintLast Go.Proofs.YtkifdadhojbohaaDoorW.PrintMore
attribute [local go_sem] max2_int min2_int max_two min_two max_three min_three max_four min_four   -- for this text's walks alone
set_option linter.unusedVariables false
set_option linter.unusedSimpArgs false
/-! ### salchowlaw10_ParserPossible: function 4 -/
def salchowlaw10_ParserPossible.j0 : Nat → List (S41) → List (S46) → Bool → Option (Bool)
 | 0, _, _, _ => none
 | k + 1, x3, x5, x53 => if x53 = true then (none) else ((salchowlaw10_tokens.f k x3).bind fun t390 => (if (t390.length : Int) = (wrap64 ((x5.length : Int) - 1)) then ((salchowlaw10_placed.f k x3 x5).bind fun t393 => (some (t393 == (t390.length : Int)))) else (none)))
def salchowlaw10_ParserPossible.f (k : Nat) (a0 : ByteArray) : Option (Bool) := (salchowlaw10_awake.f k).bind fun t376 => (if t376 = true then (if (a0.size : Int) > 1500 then (some true) else ((parser_Parse.f k a0).bind fun bt377 => (if bt377.2.1 = 0 then ((lexer_Lex.f k a0).bind fun bt383 => ((parser_Check.f k bt377.1).bind fun t389 => (if t389 = 0 then (if bt383.2.1 = 0 then (salchowlaw10_ParserPossible.j0 k bt377.1 bt383.1 ((bt383.1.length : Int) == 0)) else (salchowlaw10_ParserPossible.j0 k bt377.1 bt383.1 true)) else (salchowlaw10_ParserPossible.j0 k bt377.1 bt383.1 true)))) else (if (bt377.1.length : Int) = 0 then (if bt377.2.2 ≥ 0 then (some (decide (bt377.2.2 ≤ (a0.size : Int)))) else (none)) else (none))))) else (none))
theorem salchowlaw10_ParserPossible.mono_l : ∀ k, (∀ y0 y1 y2, LeO (salchowlaw10_ParserPossible.j0 k y0 y1 y2) (salchowlaw10_ParserPossible.j0 (k + 1) y0 y1 y2))
 | 0 => fun _ _ _ r h => by simp [salchowlaw10_ParserPossible.j0] at h
 | k + 1 => by
  have ih0 := salchowlaw10_ParserPossible.mono_l k
  ·
   intro y0 y1 y2
   unfold salchowlaw10_ParserPossible.j0
   repeat' first
   | (with_reducible exact ih0 _ _ _)
   | (with_reducible exact lexer_Lex.mono _ _)
   | (with_reducible exact parser_Check.mono _ _)
   | (with_reducible exact parser_Parse.mono _ _)
   | (with_reducible exact salchowlaw10_awake.mono _)
   | (with_reducible exact salchowlaw10_placed.mono _ _ _)
   | (with_reducible exact salchowlaw10_tokens.mono _ _)
   | (with_reducible exact LeO.refl _)
   | (with_reducible exact LeO.none _)
   | (with_reducible refine LeO.ite ?_ ?_)
   | (with_reducible refine LeO.bind ?_ (fun _ => ?_))
   | exact ih0 _ _ _
   | exact lexer_Lex.mono _ _
   | exact parser_Check.mono _ _
   | exact parser_Parse.mono _ _
   | exact salchowlaw10_awake.mono _
   | exact salchowlaw10_placed.mono _ _ _
   | exact salchowlaw10_tokens.mono _ _
   | exact LeO.none _
   | refine LeO.ite ?_ ?_
   | refine LeO.bind ?_ (fun _ => ?_)
theorem salchowlaw10_ParserPossible.mono : ∀ a0 k, LeO (salchowlaw10_ParserPossible.f k a0) (salchowlaw10_ParserPossible.f (k + 1) a0) := by
 intro a0 k
 have ih0 := salchowlaw10_ParserPossible.mono_l k
 unfold salchowlaw10_ParserPossible.f
 repeat' first
   | (with_reducible exact ih0 _ _ _)
   | (with_reducible exact lexer_Lex.mono _ _)
   | (with_reducible exact parser_Check.mono _ _)
   | (with_reducible exact parser_Parse.mono _ _)
   | (with_reducible exact salchowlaw10_awake.mono _)
   | (with_reducible exact salchowlaw10_placed.mono _ _ _)
   | (with_reducible exact salchowlaw10_tokens.mono _ _)
   | (with_reducible exact LeO.refl _)
   | (with_reducible exact LeO.none _)
   | (with_reducible refine LeO.ite ?_ ?_)
   | (with_reducible refine LeO.bind ?_ (fun _ => ?_))
   | exact ih0 _ _ _
   | exact lexer_Lex.mono _ _
   | exact parser_Check.mono _ _
   | exact parser_Parse.mono _ _
   | exact salchowlaw10_awake.mono _
   | exact salchowlaw10_placed.mono _ _ _
   | exact salchowlaw10_tokens.mono _ _
   | exact LeO.none _
   | refine LeO.ite ?_ ?_
   | refine LeO.bind ?_ (fun _ => ?_)
set_option maxHeartbeats 8000000 in
set_option maxRecDepth 100000 in
theorem salchowlaw10_ParserPossible.calls (k : Nat) (a0 : ByteArray) (r : Bool) (w : World) (h : salchowlaw10_ParserPossible.f k a0 = some r) :
  Calls Tryd.prog 4 #[.string a0] w fun e w' => e = .returned (.bool r) ∧ Below w.heap.size w w' := by
 have hu26 := Tryd.underlying26
 have HB := Aside0.mk (Below.refl w.heap.size w)
 have H : ((salchowlaw10_awake.f k).bind fun t376 => (if t376 = true then (if (a0.size : Int) > 1500 then (some true) else ((parser_Parse.f k a0).bind fun bt377 => (if bt377.2.1 = 0 then ((lexer_Lex.f k a0).bind fun bt383 => ((parser_Check.f k bt377.1).bind fun t389 => (if t389 = 0 then (if bt383.2.1 = 0 then (salchowlaw10_ParserPossible.j0 k bt377.1 bt383.1 ((bt383.1.length : Int) == 0)) else (salchowlaw10_ParserPossible.j0 k bt377.1 bt383.1 true)) else (salchowlaw10_ParserPossible.j0 k bt377.1 bt383.1 true)))) else (if (bt377.1.length : Int) = 0 then (if bt377.2.2 ≥ 0 then (some (decide (bt377.2.2 ≤ (a0.size : Int)))) else (none)) else (none))))) else (none))) = some r := h
 clear h
 replace H := Option.bind_eq_some_iff.mp H
 obtain ⟨t376, A20, H⟩ := H
 (try dsimp only at H)
 have A2 := Aside0.mk A20
 clear A20
 by_cases c3 : t376 = true
 ·
  subst c3
  have H1 : (if (a0.size : Int) > 1500 then (some true) else ((parser_Parse.f k a0).bind fun bt377 => (if bt377.2.1 = 0 then ((lexer_Lex.f k a0).bind fun bt383 => ((parser_Check.f k bt377.1).bind fun t389 => (if t389 = 0 then (if bt383.2.1 = 0 then (salchowlaw10_ParserPossible.j0 k bt377.1 bt383.1 ((bt383.1.length : Int) == 0)) else (salchowlaw10_ParserPossible.j0 k bt377.1 bt383.1 true)) else (salchowlaw10_ParserPossible.j0 k bt377.1 bt383.1 true)))) else (if (bt377.1.length : Int) = 0 then (if bt377.2.2 ≥ 0 then (some (decide (bt377.2.2 ≤ (a0.size : Int)))) else (none)) else (none))))) = some r := by rw [if_pos rfl] at H; exact H
  clear H
  have H := H1
  clear H1
  by_cases c4 : (a0.size : Int) > 1500
  ·
   rw [if_pos c4] at H
   have c4b0 := decide_eq_true c4
   have c4b1 : decide (1500 < a0.size) = true := decide_eq_true (by omega)
   clear c4
   obtain rfl := Option.some.inj H
   go_enter Tryd.func4, Tryd.ntmps4
   go_wp2_with (first | ((with_reducible refine gate_callee (f := 21) rfl ?_); refine goesL_ (some 8) rfl rfl Tryd.func21 (by kernel_rfl) rfl #[] rfl ga_ ?_; (with_reducible refine (salchowlaw10_awake.calls k  true _ A2.out).mono ?_); rintro e w5 ⟨rfl, hb⟩; refine ⟨_, rfl, ?_⟩; refine cut1_ (below_step (bl_ HB.out) hb) ?_; clear HB; intro HB; (try clear hb); (try clear hb2); (try clear hk); (try clear hi)))
   go_ret
   exact ⟨er_, bl_ HB.out⟩
  ·
   rw [if_neg c4] at H
   have c4b0 := decide_eq_false c4
   have c4b1 : decide (1500 < a0.size) = false := decide_eq_false (by omega)
   clear c4
   replace H := Option.bind_eq_some_iff.mp H
   obtain ⟨⟨t377, t380, t381⟩, A60, H⟩ := H
   (try dsimp only at H)
   have A6 := Aside0.mk A60
   clear A60
   by_cases c7 : t380 = 0
   ·
    rw [if_pos c7] at H
    have c7b0 := beq_iff_eq.mpr c7
    have c7b1 := bne_eq_false_iff_eq.mpr c7
    clear c7
    replace H := Option.bind_eq_some_iff.mp H
    obtain ⟨⟨t383, t386, t387⟩, A80, H⟩ := H
    (try dsimp only at H)
    have A8 := Aside0.mk A80
    clear A80
    have HC9 := Aside0.mk H
    clear H
    go_enter Tryd.func4, Tryd.ntmps4
    go_upto_region 9 with (first | ((with_reducible refine gate_callee (f := 21) rfl ?_); refine goesL_ (some 8) rfl rfl Tryd.func21 (by kernel_rfl) rfl #[] rfl ga_ ?_; (with_reducible refine (salchowlaw10_awake.calls k  true _ A2.out).mono ?_); rintro e w10 ⟨rfl, hb⟩; refine ⟨_, rfl, ?_⟩; have n0_ := Aside0.mk (below_step (bl_ HB.out) hb); clear HB; have HB := n0_; clear n0_; (try clear hb); (try clear hb2); (try clear hk); (try clear hi)) | ((with_reducible refine gate_callee (f := 22) rfl ?_); refine goesL_ (some 15) rfl rfl Tryd.func22 (by kernel_rfl) rfl #[.string a0] rfl ga_ ?_; (with_reducible refine (parser_Parse.calls k a0 t377 t380 t381 _ A6.out).mono ?_); rintro e w11 ⟨v378, rfl, ho0, hb⟩; refine ⟨_, rfl, ?_⟩; have n0_ := Aside0.mk (Kd.R_lower ho0 (below_size (bl_ HB.out))); have n1_ := Aside0.mk (below_step (bl_ HB.out) hb); clear HB; have HO379 := n0_; have HB := n1_; clear n0_ n1_; (try clear hb); (try clear hb2); (try clear hk); (try clear hi); (try clear ho0)) | ((with_reducible refine gate_dst (N := 4) rfl ?_); (try (refine gate_guard (by rfl) ?_; dsimp only)); refine bx_ (N := 4) (cs := #[.int .i64 0, .int .i64 0]) (t := 26) ?_; intro gb382 hg w12 hbox hb; have n0_ := Aside0.mk (Kd.R_below (rR_ HO379.out) hb); have n1_ := Aside0.mk (below_step (bl_ HB.out) hb); have n2_ := Aside0.mk (hbox); have n3_ := Aside0.mk (bz_ (w := w) hg (bl_ HB.out)); have n4_ := Aside0.mk (bz_ (w := w) hg (bl_ HB.out)); clear HO379; clear HB; have HO379 := n0_; have HB := n1_; have BK382 := n2_; have GW382 := n3_; have GE382 := n4_; clear n0_ n1_ n2_ n3_ n4_; clear hb hbox hg; obtain ⟨hcz13_0, hcz13_1, hfz13_0, hfz13_1⟩ := cq2_ BK382.out) | ((with_reducible refine gate_callee (f := 25) rfl ?_); refine goesL_ (some 38) rfl rfl Tryd.func25 (by kernel_rfl) rfl #[.string a0] rfl ga_ ?_; (with_reducible refine (lexer_Lex.calls k a0 t383 t386 t387 _ A8.out).mono ?_); rintro e w14 ⟨v384, rfl, ho0, hb⟩; refine ⟨_, rfl, ?_⟩; have n0_ := Aside0.mk (Kd.R_elder' (by (with_reducible repeat (first | apply Kd.R_alloc | apply Kd.R_drewN | apply Kd.R_drew)); exact (Kd.R_mono (Kd.R_far (p := ⟨gb382, 1, none⟩) (Kd.R_far (p := ⟨gb382, 0, none⟩) (Kd.R_types HO379.out BK382.out (by decide)) (fun _ hk => hk.2) (.int .i64 t380)) (fun _ hk => hk.2) (.int .i64 t381)) (fun _ h_ => h_.1))) (Kd.R_base ho0) hb); have n1_ := Aside0.mk (Kd.R_lower ho0 (below_size (bl1_ HB.out GE382.out))); have n2_ := Aside0.mk (blk_below (g := gb382) (o := .cells #[.int .i64 t380, .int .i64 t381] 26 (0, 0)) (put2_ (bk_ BK382.out)) hb); have n3_ := Aside0.mk (below_step (bl1_ HB.out GE382.out) hb); clear HO379; clear BK382; clear HB; have HO379 := n0_; have HO385 := n1_; have BK382 := n2_; have HB := n3_; clear n0_ n1_ n2_ n3_; (try clear hb); (try clear hb2); (try clear hk); (try clear hi); (try clear ho0)) | ((with_reducible refine gate_dst (N := 6) rfl ?_); (try (refine gate_guard (by rfl) ?_; dsimp only)); refine bx_ (N := 6) (cs := #[.int .i64 0, .int .i64 0]) (t := 26) ?_; intro gb388 hg w15 hbox hb; have n0_ := Aside0.mk (Kd.R_below (rR_ HO379.out) hb); have n1_ := Aside0.mk (Kd.R_below (rR_ HO385.out) hb); have n2_ := Aside0.mk (bb_ BK382.out hb); have n3_ := Aside0.mk (below_step (bl1_ HB.out GE382.out) hb); have n4_ := Aside0.mk (hbox); have n5_ := Aside0.mk (bz_ (w := w) hg (bl1_ HB.out GE382.out)); have n6_ := Aside0.mk (bz_ (w := w) hg (bl1_ HB.out GE382.out)); have n7_ := Aside0.mk (nl_ hg BK382.out); have n8_ := Aside0.mk (ng_ hg BK382.out); clear HO379; clear HO385; clear BK382; clear HB; have HO379 := n0_; have HO385 := n1_; have BK382 := n2_; have HB := n3_; have BK388 := n4_; have GW388 := n5_; have GE388 := n6_; have NB382_388 := n7_; have NB388_382 := n8_; clear n0_ n1_ n2_ n3_ n4_ n5_ n6_ n7_ n8_; clear hb hbox hg; have hnb16 := NB388_382.out; have hnc16 := NB382_388.out; obtain ⟨hcz17_0, hcz17_1, hfz17_0, hfz17_1⟩ := cq2_ BK388.out))
    (try simp only [Act.put, List.setIfInBounds_toArray, List.set_cons_zero, List.set_cons_succ])
    go_cut [53] (fun v53 wc => ∃ (kq : Nat) (x53_8 : Bool), v53 = .bool x53_8 ∧ Aside0 (salchowlaw10_ParserPossible.j0 kq t377 t383 x53_8 = some r) ∧ Aside0 (kq ≤ k) ∧ Aside0 (Kd.R k41 41 wc w.heap.size (fun k_ => some k_ ≠ (v384 : Value).ownBlock) v378 t377) ∧ Aside0 (Kd.R k46 46 wc w.heap.size (fun _ => True) v384 t383) ∧ Aside0 (wc.heap[gb382]? = some (.cells #[.int .i64 t380, .int .i64 t381] 26 (0, 0))) ∧ Aside0 (wc.heap[gb388]? = some (.cells #[.int .i64 t386, .int .i64 t387] 26 (0, 0))) ∧ Aside0 (Below w.heap.size w wc))
    case first =>
     have H := HC9.out
     clear HC9
     replace H := Option.bind_eq_some_iff.mp H
     obtain ⟨t389, A180, H⟩ := H
     (try dsimp only at H)
     have A18 := Aside0.mk A180
     clear A180
     by_cases c19 : t389 = 0
     ·
      rw [if_pos c19] at H
      have c19b0 := beq_iff_eq.mpr c19
      have c19b1 := bne_eq_false_iff_eq.mpr c19
      clear c19
      (first | rw [c19b0] | (simp only [i64_w, i32_w]; rw [c19b0]) | skip)
      by_cases c20 : t386 = 0
      ·
       rw [if_pos c20] at H
       have c20b0 := beq_iff_eq.mpr c20
       have c20b1 := bne_eq_false_iff_eq.mpr c20
       clear c20
       have H' := Aside0.mk H
       clear H
       obtain ⟨Ao21, co21, eo21⟩ := Kd.R_slice HO379.out
       subst eo21
       go_wp2_with (first | ((with_reducible refine gate_callee (f := 26) rfl ?_); refine goesL_ (some 42) rfl rfl Tryd.func26 (by kernel_rfl) rfl #[.slice Ao21 t377.length co21] rfl ga_ ?_; (with_reducible refine (parser_Check.calls k _ _ t377 t389 _ ?side1 ?side2 A18.out).mono ?_); (case side1 => refine (Kd.R_reads' (e := 41) (base := w.heap.size) (ok := fun k_ => (True ∧ some k_ ≠ (v384 : Value).ownBlock)) (n := t377.length) (c := co21) ?_).2.2; exact (by (with_reducible repeat (first | apply Kd.R_alloc | apply Kd.R_drewN | apply Kd.R_drew)); exact (Kd.R_mono (Kd.R_far (p := ⟨gb388, 1, none⟩) (Kd.R_far (p := ⟨gb388, 0, none⟩) (Kd.R_types HO379.out BK388.out (by decide)) (fun _ hk => hk.2) (.int .i64 t386)) (fun _ hk => hk.2) (.int .i64 t387)) (fun _ h_ => h_.1)))); (case side2 => exact (Kd.R_reads' HO379.out).2.1); rintro e w22 ⟨rfl, hb⟩; refine ⟨_, rfl, ?_⟩; refine cut5_ (Kd.R_below (by (with_reducible repeat (first | apply Kd.R_alloc | apply Kd.R_drewN | apply Kd.R_drew)); exact (Kd.R_mono (Kd.R_far (p := ⟨gb388, 1, none⟩) (Kd.R_far (p := ⟨gb388, 0, none⟩) (Kd.R_types HO379.out BK388.out (by decide)) (fun _ hk => hk.2) (.int .i64 t386)) (fun _ hk => hk.2) (.int .i64 t387)) (fun _ h_ => h_.1))) hb) (Kd.R_below (by (with_reducible repeat (first | apply Kd.R_alloc | apply Kd.R_drewN | apply Kd.R_drew)); exact (Kd.R_mono (Kd.R_far (p := ⟨gb388, 1, none⟩) (Kd.R_far (p := ⟨gb388, 0, none⟩) (Kd.R_types HO385.out BK388.out (by decide)) (fun _ hk => hk.2) (.int .i64 t386)) (fun _ hk => hk.2) (.int .i64 t387)) (fun _ h_ => h_.1))) hb) (blk_below (g := gb382) (o := .cells #[.int .i64 t380, .int .i64 t381] 26 (0, 0)) (far2_ (bk_ BK382.out) NB382_388.out) hb) (blk_below (g := gb388) (o := .cells #[.int .i64 t386, .int .i64 t387] 26 (0, 0)) (put2_ (bk_ BK388.out)) hb) (below_step (bl2_ HB.out GE382.out GE388.out) hb) ?_; clear HO379 HO385 BK382 BK388 HB; intro HO379 HO385 BK382 BK388 HB; (try clear hb); (try clear hb2); (try clear hk); (try clear hi); have hnb23 := NB388_382.out; have hnc23 := NB382_388.out; obtain ⟨hcz24_0, hcz24_1, hfz24_0, hfz24_1⟩ := cq2_ BK388.out; obtain ⟨Ao25, co25, eo25⟩ := Kd.R_slice HO385.out; subst eo25))
       go_meet
       case rel => exact ⟨_, (((t383.length : Int) == 0)), sr_, H', ⟨by first | omega | exact Nat.le_refl _⟩, ⟨by (with_reducible repeat (first | apply Kd.R_alloc | apply Kd.R_drewN | apply Kd.R_drew)); exact Kd.R_mono HO379.out (fun _ hk => hk.2)⟩, ⟨by (with_reducible repeat (first | apply Kd.R_alloc | apply Kd.R_drewN | apply Kd.R_drew)); exact HO385.out⟩, ⟨by exact bk_ BK382.out⟩, ⟨by exact bk_ BK388.out⟩, ⟨bl2_ HB.out GE382.out GE388.out⟩⟩
      ·
       rw [if_neg c20] at H
       have c20b0 := beq_eq_false_iff_ne.mpr c20
       have c20b1 := bne_iff_ne.mpr c20
       have H' := Aside0.mk H
       clear H
       obtain ⟨Ao26, co26, eo26⟩ := Kd.R_slice HO379.out
       subst eo26
       go_wp2_with (first | ((with_reducible refine gate_callee (f := 26) rfl ?_); refine goesL_ (some 42) rfl rfl Tryd.func26 (by kernel_rfl) rfl #[.slice Ao26 t377.length co26] rfl ga_ ?_; (with_reducible refine (parser_Check.calls k _ _ t377 t389 _ ?side1 ?side2 A18.out).mono ?_); (case side1 => refine (Kd.R_reads' (e := 41) (base := w.heap.size) (ok := fun k_ => (True ∧ some k_ ≠ (v384 : Value).ownBlock)) (n := t377.length) (c := co26) ?_).2.2; exact (by (with_reducible repeat (first | apply Kd.R_alloc | apply Kd.R_drewN | apply Kd.R_drew)); exact (Kd.R_mono (Kd.R_far (p := ⟨gb388, 1, none⟩) (Kd.R_far (p := ⟨gb388, 0, none⟩) (Kd.R_types HO379.out BK388.out (by decide)) (fun _ hk => hk.2) (.int .i64 t386)) (fun _ hk => hk.2) (.int .i64 t387)) (fun _ h_ => h_.1)))); (case side2 => exact (Kd.R_reads' HO379.out).2.1); rintro e w27 ⟨rfl, hb⟩; refine ⟨_, rfl, ?_⟩; refine cut5_ (Kd.R_below (by (with_reducible repeat (first | apply Kd.R_alloc | apply Kd.R_drewN | apply Kd.R_drew)); exact (Kd.R_mono (Kd.R_far (p := ⟨gb388, 1, none⟩) (Kd.R_far (p := ⟨gb388, 0, none⟩) (Kd.R_types HO379.out BK388.out (by decide)) (fun _ hk => hk.2) (.int .i64 t386)) (fun _ hk => hk.2) (.int .i64 t387)) (fun _ h_ => h_.1))) hb) (Kd.R_below (by (with_reducible repeat (first | apply Kd.R_alloc | apply Kd.R_drewN | apply Kd.R_drew)); exact (Kd.R_mono (Kd.R_far (p := ⟨gb388, 1, none⟩) (Kd.R_far (p := ⟨gb388, 0, none⟩) (Kd.R_types HO385.out BK388.out (by decide)) (fun _ hk => hk.2) (.int .i64 t386)) (fun _ hk => hk.2) (.int .i64 t387)) (fun _ h_ => h_.1))) hb) (blk_below (g := gb382) (o := .cells #[.int .i64 t380, .int .i64 t381] 26 (0, 0)) (far2_ (bk_ BK382.out) NB382_388.out) hb) (blk_below (g := gb388) (o := .cells #[.int .i64 t386, .int .i64 t387] 26 (0, 0)) (put2_ (bk_ BK388.out)) hb) (below_step (bl2_ HB.out GE382.out GE388.out) hb) ?_; clear HO379 HO385 BK382 BK388 HB; intro HO379 HO385 BK382 BK388 HB; (try clear hb); (try clear hb2); (try clear hk); (try clear hi); have hnb28 := NB388_382.out; have hnc28 := NB382_388.out; obtain ⟨hcz29_0, hcz29_1, hfz29_0, hfz29_1⟩ := cq2_ BK388.out))
       go_meet
       case rel => exact ⟨_, (true), sr_, H', ⟨by first | omega | exact Nat.le_refl _⟩, ⟨by (with_reducible repeat (first | apply Kd.R_alloc | apply Kd.R_drewN | apply Kd.R_drew)); exact Kd.R_mono HO379.out (fun _ hk => hk.2)⟩, ⟨by (with_reducible repeat (first | apply Kd.R_alloc | apply Kd.R_drewN | apply Kd.R_drew)); exact HO385.out⟩, ⟨by exact bk_ BK382.out⟩, ⟨by exact bk_ BK388.out⟩, ⟨bl2_ HB.out GE382.out GE388.out⟩⟩
     ·
      rw [if_neg c19] at H
      have c19b0 := beq_eq_false_iff_ne.mpr c19
      have c19b1 := bne_iff_ne.mpr c19
      (first | rw [c19b0] | (simp only [i64_w, i32_w]; rw [c19b0]) | skip)
      have H' := Aside0.mk H
      clear H
      obtain ⟨Ao30, co30, eo30⟩ := Kd.R_slice HO379.out
      subst eo30
      go_wp2_with (first | ((with_reducible refine gate_callee (f := 26) rfl ?_); refine goesL_ (some 42) rfl rfl Tryd.func26 (by kernel_rfl) rfl #[.slice Ao30 t377.length co30] rfl ga_ ?_; (with_reducible refine (parser_Check.calls k _ _ t377 t389 _ ?side1 ?side2 A18.out).mono ?_); (case side1 => refine (Kd.R_reads' (e := 41) (base := w.heap.size) (ok := fun k_ => (True ∧ some k_ ≠ (v384 : Value).ownBlock)) (n := t377.length) (c := co30) ?_).2.2; exact (by (with_reducible repeat (first | apply Kd.R_alloc | apply Kd.R_drewN | apply Kd.R_drew)); exact (Kd.R_mono (Kd.R_far (p := ⟨gb388, 1, none⟩) (Kd.R_far (p := ⟨gb388, 0, none⟩) (Kd.R_types HO379.out BK388.out (by decide)) (fun _ hk => hk.2) (.int .i64 t386)) (fun _ hk => hk.2) (.int .i64 t387)) (fun _ h_ => h_.1)))); (case side2 => exact (Kd.R_reads' HO379.out).2.1); rintro e w31 ⟨rfl, hb⟩; refine ⟨_, rfl, ?_⟩; refine cut5_ (Kd.R_below (by (with_reducible repeat (first | apply Kd.R_alloc | apply Kd.R_drewN | apply Kd.R_drew)); exact (Kd.R_mono (Kd.R_far (p := ⟨gb388, 1, none⟩) (Kd.R_far (p := ⟨gb388, 0, none⟩) (Kd.R_types HO379.out BK388.out (by decide)) (fun _ hk => hk.2) (.int .i64 t386)) (fun _ hk => hk.2) (.int .i64 t387)) (fun _ h_ => h_.1))) hb) (Kd.R_below (by (with_reducible repeat (first | apply Kd.R_alloc | apply Kd.R_drewN | apply Kd.R_drew)); exact (Kd.R_mono (Kd.R_far (p := ⟨gb388, 1, none⟩) (Kd.R_far (p := ⟨gb388, 0, none⟩) (Kd.R_types HO385.out BK388.out (by decide)) (fun _ hk => hk.2) (.int .i64 t386)) (fun _ hk => hk.2) (.int .i64 t387)) (fun _ h_ => h_.1))) hb) (blk_below (g := gb382) (o := .cells #[.int .i64 t380, .int .i64 t381] 26 (0, 0)) (far2_ (bk_ BK382.out) NB382_388.out) hb) (blk_below (g := gb388) (o := .cells #[.int .i64 t386, .int .i64 t387] 26 (0, 0)) (put2_ (bk_ BK388.out)) hb) (below_step (bl2_ HB.out GE382.out GE388.out) hb) ?_; clear HO379 HO385 BK382 BK388 HB; intro HO379 HO385 BK382 BK388 HB; (try clear hb); (try clear hb2); (try clear hk); (try clear hi)))
      go_meet
      case rel => exact ⟨_, (true), sr_, H', ⟨by first | omega | exact Nat.le_refl _⟩, ⟨by (with_reducible repeat (first | apply Kd.R_alloc | apply Kd.R_drewN | apply Kd.R_drew)); exact Kd.R_mono HO379.out (fun _ hk => hk.2)⟩, ⟨by (with_reducible repeat (first | apply Kd.R_alloc | apply Kd.R_drewN | apply Kd.R_drew)); exact HO385.out⟩, ⟨by exact bk_ BK382.out⟩, ⟨by exact bk_ BK388.out⟩, ⟨bl2_ HB.out GE382.out GE388.out⟩⟩
    case rest =>
     clear HC9
     try clear c1
     try clear c2
     try clear p2
     try clear c3
     try clear c4
     try clear c4b0
     try clear c4b1
     try clear c7
     try clear c7b0
     try clear c7b1
     try clear c16
     try clear c19
     try clear c19b0
     try clear c19b1
     try clear c20
     try clear c20b0
     try clear c20b1
     try clear c21
     try clear c22
     try clear c23
     try clear c25
     try clear c26
     try clear c28
     try clear hcz13_0
     try clear hcz13_1
     try clear hcz17_0
     try clear hcz17_1
     try clear hcz24_0
     try clear hcz24_1
     try clear hcz29_0
     try clear hcz29_1
     try clear hfz13_0
     try clear hfz13_1
     try clear hfz17_0
     try clear hfz17_1
     try clear hfz24_0
     try clear hfz24_1
     try clear hfz29_0
     try clear hfz29_1
     obtain ⟨kq, x53_8, rfl, HA, HJ8, HO_3, HO_5, BK382, BK388, HB⟩ := hcut
     cases kq with
     | zero => exact absurd HA.out (by simp [salchowlaw10_ParserPossible.j0])
     | succ kj8 =>
      have H := HA.out
      clear HA
      simp only [salchowlaw10_ParserPossible.j0] at H
      by_cases c32 : x53_8 = true
      ·
       subst c32
       have H1 : (none) = some r := by rw [if_pos rfl] at H; exact H
       clear H
       have H := H1
       clear H1
       exact absurd H (by simp)
      ·
       replace c32 := Bool.eq_false_iff.mpr c32
       subst c32
       have H1 : ((salchowlaw10_tokens.f kj8 t377).bind fun t390 => (if (t390.length : Int) = (wrap64 ((t383.length : Int) - 1)) then ((salchowlaw10_placed.f kj8 t377 t383).bind fun t393 => (some (t393 == (t390.length : Int)))) else (none))) = some r := by rw [if_neg (show ¬ (false = true) by decide)] at H; exact H
       clear H
       have H := H1
       clear H1
       replace H := Option.bind_eq_some_iff.mp H
       obtain ⟨t390, A330, H⟩ := H
       (try dsimp only at H)
       have A33 := Aside0.mk A330
       clear A330
       by_cases c34 : (t390.length : Int) = (wrap64 ((t383.length : Int) - 1))
       ·
        rw [if_pos c34] at H
        have c34b0 := beq_iff_eq.mpr c34
        have c34b1 := bne_eq_false_iff_eq.mpr c34
        clear c34
        replace H := Option.bind_eq_some_iff.mp H
        obtain ⟨t393, A350, H⟩ := H
        (try dsimp only at H)
        have A35 := Aside0.mk A350
        clear A350
        obtain rfl := Option.some.inj H
        obtain ⟨Ao36, co36, eo36⟩ := Kd.R_slice HO_3.out
        subst eo36
        go_wp2_with (first | ((with_reducible refine gate_callee (f := 27) rfl ?_); refine goesL_ (some 55) rfl rfl Tryd.func27 (by kernel_rfl) rfl #[.slice Ao36 t377.length co36] rfl ga_ ?_; (with_reducible refine (salchowlaw10_tokens.calls kj8 _ _ t377 t390 _ ?side1 ?side2 A33.out).mono ?_); (case side1 => repeat (first | exact (Kd.R_reads' HO_3.out).2.2 | (with_reducible refine Kd.C_alloc ?_ _) | (with_reducible refine Kd.C_drewN ?_ _) | (with_reducible refine Kd.C_drew ?_))); (case side2 => exact (Kd.R_reads' HO_3.out).2.1); rintro e w37 ⟨v391, rfl, ho0, hb⟩; refine ⟨_, rfl, ?_⟩; refine cut6_ (Kd.R_elder' (rR_ HO_3.out) (Kd.R_base ho0) hb) (Kd.R_elder' (rR_ HO_5.out) (Kd.R_base ho0) hb) (Kd.R_lower (Kd.R_new' ho0 (Kd.R_lt (rR_ HO_5.out))) (below_size (bl2_ HB.out GE382.out GE388.out))) (bb_ BK382.out hb) (bb_ BK388.out hb) (below_step (bl2_ HB.out GE382.out GE388.out) hb) ?_; clear HO_3 HO_5 BK382 BK388 HB; intro HO_3 HO_5 HO392 BK382 BK388 HB; (try clear hb); (try clear hb2); (try clear hk); (try clear hi); (try clear ho0); obtain ⟨Ao38, co38, eo38⟩ := Kd.R_slice HO392.out; subst eo38; obtain ⟨Ao39, co39, eo39⟩ := Kd.R_slice HO_5.out; subst eo39) | (go_at_call 28; (with_reducible refine (salchowlaw10_placed.calls kj8 _ _ t377 _ _ t383 t393 _ ?side1 ?side2 ?side3 ?side4 A35.out).mono ?_); (case side1 => repeat (first | exact (Kd.R_reads' HO_3.out).2.2 | (with_reducible refine Kd.C_alloc ?_ _) | (with_reducible refine Kd.C_drewN ?_ _) | (with_reducible refine Kd.C_drew ?_))); (case side2 => exact (Kd.R_reads' HO_3.out).2.1); (case side3 => repeat (first | exact (Kd.R_reads' HO_5.out).2.2 | (with_reducible refine Kd.C_alloc ?_ _) | (with_reducible refine Kd.C_drewN ?_ _) | (with_reducible refine Kd.C_drew ?_))); (case side4 => exact (Kd.R_reads' HO_5.out).2.1); rintro e w40 ⟨rfl, hb⟩; refine cut6_ (Kd.R_below (rR_ HO_3.out) hb) (Kd.R_below (rR_ HO_5.out) hb) (Kd.R_below (rR_ HO392.out) hb) (bb_ BK382.out hb) (bb_ BK388.out hb) (below_step (bl2_ HB.out GE382.out GE388.out) hb) ?_; clear HO_3 HO_5 HO392 BK382 BK388 HB; intro HO_3 HO_5 HO392 BK382 BK388 HB; (try clear hb); (try clear hb2); (try clear hk); (try clear hi)))
        go_ret
        exact ⟨er_, bl2_ HB.out GE382.out GE388.out⟩
       ·
        rw [if_neg c34] at H
        exact absurd H (by simp)
   ·
    rw [if_neg c7] at H
    have c7b0 := beq_eq_false_iff_ne.mpr c7
    have c7b1 := bne_iff_ne.mpr c7
    by_cases c41 : (t377.length : Int) = 0
    ·
     rw [if_pos c41] at H
     have c41b0 := beq_iff_eq.mpr c41
     have c41b1 := bne_eq_false_iff_eq.mpr c41
     clear c41
     by_cases c42 : t381 ≥ 0
     ·
      rw [if_pos c42] at H
      have c42b0 := decide_eq_true c42
      clear c42
      obtain rfl := Option.some.inj H
      go_enter Tryd.func4, Tryd.ntmps4
      go_wp2_with (first | ((with_reducible refine gate_callee (f := 21) rfl ?_); refine goesL_ (some 8) rfl rfl Tryd.func21 (by kernel_rfl) rfl #[] rfl ga_ ?_; (with_reducible refine (salchowlaw10_awake.calls k  true _ A2.out).mono ?_); rintro e w43 ⟨rfl, hb⟩; refine ⟨_, rfl, ?_⟩; refine cut1_ (below_step (bl_ HB.out) hb) ?_; clear HB; intro HB; (try clear hb); (try clear hb2); (try clear hk); (try clear hi)) | ((with_reducible refine gate_callee (f := 22) rfl ?_); refine goesL_ (some 15) rfl rfl Tryd.func22 (by kernel_rfl) rfl #[.string a0] rfl ga_ ?_; (with_reducible refine (parser_Parse.calls k a0 t377 t380 t381 _ A6.out).mono ?_); rintro e w44 ⟨v378, rfl, ho0, hb⟩; refine ⟨_, rfl, ?_⟩; refine cut2_ (Kd.R_lower ho0 (below_size (bl_ HB.out))) (below_step (bl_ HB.out) hb) ?_; clear HB; intro HO379 HB; (try clear hb); (try clear hb2); (try clear hk); (try clear hi); (try clear ho0)) | ((with_reducible refine gate_dst (N := 4) rfl ?_); (try (refine gate_guard (by rfl) ?_; dsimp only)); refine bx_ (N := 4) (cs := #[.int .i64 0, .int .i64 0]) (t := 26) ?_; intro gb382 hg w45 hbox hb; refine cut5_ (Kd.R_below (rR_ HO379.out) hb) (below_step (bl_ HB.out) hb) (hbox) (bz_ (w := w) hg (bl_ HB.out)) (bz_ (w := w) hg (bl_ HB.out)) ?_; clear HO379 HB; intro HO379 HB BK382 GW382 GE382; clear hb hbox hg; obtain ⟨hcz46_0, hcz46_1, hfz46_0, hfz46_1⟩ := cq2_ BK382.out; obtain ⟨Ao47, co47, eo47⟩ := Kd.R_slice HO379.out; subst eo47))
      go_ret
      exact ⟨er_, bl1_ HB.out GE382.out⟩
     ·
      rw [if_neg c42] at H
      exact absurd H (by simp)
    ·
     rw [if_neg c41] at H
     exact absurd H (by simp)
 ·
  replace c3 := Bool.eq_false_iff.mpr c3
  subst c3
  have H1 : (none) = some r := by rw [if_neg (show ¬ (false = true) by decide)] at H; exact H
  clear H
  have H := H1
  clear H1
  exact absurd H (by simp)
/-- THE ONE PURE STATEMENT of salchowlaw10_ParserPossible: yours. -/
def salchowlaw10_ParserPossible.Pure : Prop := ∀ (a0 : ByteArray), a0.size ≤ 140737488351232 → ∃ k, salchowlaw10_ParserPossible.f k a0 = some true
theorem salchowlaw10_ParserPossible.walk (P : salchowlaw10_ParserPossible.Pure) (a0 : ByteArray) (w : World) (w0 : a0.size ≤ 140737488351232) :
  Calls Tryd.prog 4 #[.string a0] w fun e w' => e = .returned (.bool true) ∧ Below w.heap.size w w' := by
 obtain ⟨k, h⟩ := P a0 w0
 refine (salchowlaw10_ParserPossible.calls k a0 true w h).mono ?_
 rintro e w' ⟨rfl, hd⟩
 exact ⟨rfl, hd⟩
end Go.Proofs.YtkifdadhojbohaaDoor.Pr
namespace Go.Proofs.YtkifdadhojbohaaDoor.Pu
open Go.RowKit Go.Proofs.YtkifdadhojbohaaDoor Go.Proofs.YtkifdadhojbohaaDoor.Pr Go.Proofs.YtkifdadhojbohaaDoorW.PrintWords Go.Proofs.YtkifdadhojbohaaDoorW.PrintLast Go.Proofs.YtkifdadhojbohaaDoorW.PrintMore
/-! ### placed -/
theorem wr1 (n a : Nat) (h : n + a ≤ 1000000) : wrap64 (wrap64 ((n : Int) + (a : Int)) + 1) = ((n + a + 1 : Nat) : Int) := by
  rw [wrap64_of (i := (n : Int) + a) (by omega) (by omega), wrap64_of (by omega) (by omega)]; omega
theorem wr2 (n a : Nat) (h : n + a ≤ 1000000) : wrap64 ((n : Int) + wrap64 ((a : Int) + 2)) = ((n + a + 2 : Nat) : Int) := by
  rw [wrap64_of (i := (a : Int) + 2) (by omega) (by omega), wrap64_of (by omega) (by omega)]; omega
theorem wr3 (n a : Nat) (h : n + a ≤ 1000000) : wrap64 ((n : Int) + wrap64 ((a : Int) + 1)) = ((n + a + 1 : Nat) : Int) := by
  rw [wrap_nat a (by omega), wrap64_of (by omega) (by omega)]; omega
theorem wr4 (n a : Nat) (h : n + a ≤ 1000000) : wrap64 (wrap64 ((n : Int) + 1) + (a : Int)) = ((n + 1 + a : Nat) : Int) := by
  rw [wrap_nat n (by omega), wrap64_of (by omega) (by omega)]; omega
theorem placed_atoms (A : List S41) (T : List S46) (n i : Nat) (w : ByteArray) (bl : Bool) (ks : List S41) (at_ : Int) (hn : T.length ≤ 100000) (r : Int) (u : S46) (q : List S46) :
    ∀ (as0 ats : List S46) (d : Nat), T.drop (n + 1) = as0 ++ u :: q → as0.drop d = ats → d ≤ as0.length →
      Ev (fun k => salchowlaw10_placed.l1 k A T (n : Int) (i : Int) (as0.length : Int) w as0 bl ks at_) r → Ev (fun k => salchowlaw10_placed.l1 k A T (n : Int) (i : Int) (d : Int) w as0 bl ks at_) r := by
  intro as0 ats
  induction ats with
  | nil =>
    intro d hT hd hl h
    have : d = as0.length := by
      have := congrArg List.length hd
      rw [List.length_drop] at this
      simp at this; omega
    rw [this]; exact h
  | cons a ats ih =>
    intro d hT hd hl h
    obtain ⟨b1, b2, b3⟩ := rd_at hd
    have hTd : T.drop (n + 1 + d) = a :: (ats ++ u :: q) := by
      rw [← List.drop_drop, hT, List.drop_append_of_le_length (by omega), hd]; rfl
    obtain ⟨c1, c2, c3⟩ := rd_at hTd
    refine Ev.succ ?_
    simp only [salchowlaw10_placed.l1, wr4 n d (by omega), c2, b2]
    rw [wrap_nat d (by omega)]
    refine Ev.ifp (by omega) (Ev.ifp natO (Ev.ifp (by omega) (Ev.ifp natO (Ev.ifn (by simp) ?_))))
    exact ih (d + 1) hT b3 (by omega) h
theorem placed_loop {o : Nat} {ts : List S46} {x : Ans} (h : RL o ts x) : ∀ cs r, x = .ok (cs, r) → ∀ (A : List S41) (T : List S46) (n i : Nat), A.drop i = cs → T.drop n = ts → T.length ≤ 100000 → A.length ≤ 100000 → i ≤ A.length →
    Ev (fun k => salchowlaw10_placed.l0 k A T (n : Int) (i : Int)) ((T.length - r.length : Nat) : Int) := by
  have hlen : ∀ (T : List S46) (i : Nat) (q : List S46), T.drop i = q → q ≠ [] → T.length - q.length = i ∧ i < T.length := by
    intro T i q hq hne
    have := congrArg List.length hq
    rw [List.length_drop] at this
    have := List.length_pos_iff.2 hne
    omega
  induction h with
  | stop o t r h1 h2 =>
    intro cs r' hx A T n i hA hT hTl hAl hi
    cases hx
    have hd : A.length ≤ i := by
      have := congrArg List.length hA
      rw [List.length_drop] at this
      simp at this; omega
    have hj := hlen T n _ hT (by simp)
    rw [hj.1]
    refine Ev.succ ?_
    simp only [salchowlaw10_placed.l0]
    exact Ev.ifn (by omega) (Ev.now _)
  | bad => intro cs r hx; cases hx
  | semi o t ats u r x h1 h2 h3 hr ih =>
    intro cs q hx A T n i hA hT hTl hAl hi
    cases x with
    | error e => cases hx
    | ok y =>
      cases hx
      obtain ⟨a1, a2, a3⟩ := rd41_at hA
      obtain ⟨b1, b2, b3⟩ := rd_at hT
      have hu := drop_app b3
      obtain ⟨c1, c2, c3⟩ := rd_at hu
      have hna : n + ats.length ≤ 1000000 := by omega
      refine Ev.succ ?_
      simp only [salchowlaw10_placed.l0, a2, b2, wr1 n ats.length hna]
      refine Ev.ifp (by omega) (Ev.ifp natO (Ev.ifn (by omega) (Ev.ifp natO (Ev.ifp (by omega) (Ev.ifp trivial ?_)))))
      refine Ev.succ ?_
      simp only [salchowlaw10_placed.j1]
      refine Ev.ifn (by simp) ?_
      refine placed_atoms A T n i _ _ _ _ hTl _ u r ats ats 0 b3 rfl (by omega) ?_
      refine Ev.succ ?_
      simp only [salchowlaw10_placed.l1, wr2 n ats.length hna]
      rw [wrap_nat i (by omega)]
      refine Ev.ifn (by omega) (Ev.ifn (by simp) (Ev.ifn (by omega) ?_))
      exact ih _ _ rfl A T (n + ats.length + 2) (i + 1) a3 (by rw [← c3]; congr 1; omega) hTl hAl (by omega)
  | syn => intro cs r hx; cases hx
  | lim => intro cs r hx; cases hx
  | blk o t ats u r ks b q x ho h1 h2 h3 hk hr ihk ih =>
    intro cs q' hx A T n i hA hT hTl hAl hi
    cases x with
    | error e => cases hx
    | ok y =>
      cases hx
      obtain ⟨a1, a2, a3⟩ := rd41_at hA
      obtain ⟨b1, b2, b3⟩ := rd_at hT
      have hu := drop_app b3
      obtain ⟨c1, c2, c3⟩ := rd_at hu
      have hr2 : T.drop (n + ats.length + 2) = r := by rw [← c3]; congr 1; omega
      obtain ⟨b', q0, pk, f1, f2, f3, f4, f5⟩ := hk.frame _ _ rfl
      have hq : T.drop (n + ats.length + 2 + pk.length) = b :: q := drop_app (by rw [hr2, f4])
      have hq2 := (rd_at hq).2.2
      have hj := hlen T _ _ hq (by simp)
      have hsz := (hk.self false (by rw [← hr2, List.length_drop]; omega) _ _ rfl).2
      rw [← hr2, List.length_drop] at hsz
      have hks : ks.length ≤ 100000 := by simp at hsz; omega
      have hna : n + ats.length ≤ 1000000 := by omega
      refine Ev.succ ?_
      simp only [salchowlaw10_placed.l0, a2, b2, wr1 n ats.length hna]
      refine Ev.ifp (by omega) (Ev.ifp natO (Ev.ifn (by omega) (Ev.ifp natO (Ev.ifp (by omega) (Ev.ifp trivial ?_)))))
      refine Ev.succ ?_
      simp only [salchowlaw10_placed.j1]
      refine Ev.ifn (by simp) ?_
      refine placed_atoms A T n i _ _ _ _ hTl _ u r ats ats 0 b3 rfl (by omega) ?_
      refine Ev.succ ?_
      simp only [salchowlaw10_placed.l1, wr2 n ats.length hna]
      rw [wrap_nat i (by omega)]
      refine Ev.ifn (by omega) (Ev.ifp trivial (Ev.ifp natO (Ev.ifp (by omega) (Ev.bind (a := ((pk.length : Nat) : Int)) ?_ ?_))))
      · refine Ev.succ ?_
        simp only [salchowlaw10_placed.f]
        rw [show ((n + ats.length + 2 : Nat) : Int).toNat = n + ats.length + 2 by omega, hr2]
        have hrl : r.length ≤ 100000 := by rw [← hr2, List.length_drop]; omega
        have := ihk _ _ rfl ks r 0 0 rfl rfl hrl hks (by omega)
        rw [show r.length - (b :: q).length = pk.length by rw [f4]; simp] at this
        exact this
      · rw [wr3 (n + ats.length + 2) pk.length (by omega)]
        refine Ev.ifn (by omega) (Ev.ifn (by omega) ?_)
        exact ih _ _ rfl A T (n + ats.length + 2 + pk.length + 1) (i + 1) a3 hq2 hTl hAl (by omega)
  | blkF => intro cs r hx; cases hx
theorem placed_f {T : List S46} {cs : List S41} {r : List S46} (h : RL 0 T (.ok (cs, r))) (hT : T.length ≤ 100000) : Ev (fun k => salchowlaw10_placed.f k cs T) ((T.length - r.length : Nat) : Int) := by
  have hsz := (h.self false (by omega) _ _ rfl).2
  refine Ev.succ ?_
  simp only [salchowlaw10_placed.f]
  exact placed_loop h _ _ rfl cs T 0 0 rfl rfl hT (by omega) (by omega)
theorem parserPossible : salchowlaw10_ParserPossible.Pure := by
  intro s _
  apply Ev.rounds
  unfold salchowlaw10_ParserPossible.f
  refine Ev.bind awake10_f (Ev.ifp rfl ?_)
  by_cases hs : (s.size : Int) > 1500
  · exact Ev.ifp hs (Ev.now _)
  · obtain ⟨y, hy⟩ := PA.ex s
    refine Ev.ifn hs (Ev.bind (Parse_f s (by omega) hy) ?_)
    by_cases hc : y.2.1 = 0
    · obtain ⟨cs, c, a⟩ := y
      obtain rfl : c = 0 := hc
      obtain ⟨us, h1, h2, h3, h4, h5, h6, h7, h8, h9, rfl⟩ := hy.facts (by omega)
      refine Ev.ifp rfl (Ev.bind (Lex_f s (by omega)) (Ev.bind (Check_t cs (by omega) h7 h6 h4) ?_))
      rw [lexAns_ok s h1]
      have hl : ((us.map (Tok.at_ s.size) ++ [endS s.size]).length : Int) = us.length + 1 := by simp
      refine Ev.ifp rfl (Ev.ifp rfl ?_)
      have hb : (((us.map (Tok.at_ s.size) ++ [endS s.size]).length : Int) == 0) = false := by
        rw [hl, beq_eq_false_iff_ne]; omega
      rw [hb]
      refine Ev.succ ?_
      simp only [salchowlaw10_ParserPossible.j0]
      refine Ev.ifn (by simp) (Ev.bind (toks_f cs (by omega)) (Ev.ifp ?_ (Ev.bind (placed_f h2 (by have := lexed_len s h1; omega)) (Ev.ret ?_))))
      · rw [hl, wrap64_of (by omega) (by omega)]; omega
      · rw [beq_iff_eq, h5]
        simp
    · obtain ⟨g1, g2, g3⟩ := hy.at_ hc
      exact Ev.ifn hc (Ev.ifp (by rw [g3]; rfl) (Ev.ifp g1 (Ev.ret (decide_eq_true g2))))
end Go.Proofs.YtkifdadhojbohaaDoor.Pu
namespace Go.Proofs.YtkifdadhojbohaaDoor.parserPossible
open Go.ChangeShapes Go.WideShapes Go.ChangeAt Go.RowKit Rk
open Go.ChangeMaps (open_string shut_string)
theorem c09 : (Rows.parserPossibleRow.inPlace == Tryd.prog.inPlace 4) = true := by kernel_rfl
theorem c10 : (Rows.parserPossibleRow.unfollowed == Tryd.prog.unfollowed 4) = true := by kernel_rfl
theorem c11 : (Rows.parserPossibleRow.recurses == Tryd.prog.recurses 4) = true := by kernel_rfl
theorem c12 : (Rows.parserPossibleRow.named == Tryd.prog.varsNamed 4) = true := by kernel_rfl
theorem facts : joinedFacts Tryd.prog 4 Tryd.f4 Rows.parserPossibleSpec Rows.parserPossibleRow = true :=
  facts_of _ _ _ _ _ (by kernel_rfl) out_ rowed_ (by kernel_rfl) (by kernel_rfl) rfl (by kernel_rfl) rfl (by kernel_rfl) c09 c10 c11 c12 (by kernel_rfl) (by kernel_rfl) (by kernel_rfl) (by kernel_rfl) (by kernel_rfl)
    (by kernel_rfl) (by kernel_rfl) (by kernel_rfl) (by kernel_rfl) (by kernel_rfl) (by kernel_rfl) heard_ enter_ (by kernel_rfl) (by kernel_rfl) (by kernel_rfl) (by kernel_rfl) (by kernel_rfl) (by kernel_rfl)
theorem goes : false = Rows.parserPossibleRow.goesBy Tryd.prog := by kernel_rfl
set_option maxRecDepth 100000 in
theorem lifted (os : Os) (started : os.Started) (H : Type) (enc : TypeId × Value → H) :
    ReturnsInHanded {} Tryd.checked os 4 .any (fun w args => (Rows.parserPossibleSpec.pre enc Tryd.prog Tryd.f4 [] false w args ∧ laidMetH Tryd.prog laidA w) ∧ sizedMet enc Tryd.prog Tryd.f4 (OpenSpec.ofChange Rows.parserPossibleSpec) false w args)
      (Rows.parserPossibleSpec.post enc Tryd.prog Tryd.f4 false true false false) := by
  refine returnsInHanded_of_change_and (C := Tryd.checked) (X := fun w _ => laidMetH Tryd.prog laidA w) (fun _ _ _ hh h => h.of_heap hh) own started (by kernel_rfl) Tryd.func4
    (ChangeSpec.witness_shaped (enc := enc) (C := Tryd.checked) (os := os) (X := fun w _ => laidMetH Tryd.prog laidA w) false (wA os) #[.string ByteArray.empty] 8 (World.laidAll_os _ _ _)
      (World.shaped_of_ZipB (by kernel_rfl) (by kernel_rfl)) (by kernel_rfl) (by kernel_rfl) (by kernel_rfl) (met_A os _)) ?_
  intro W base args ds gs before hval0 hW _ hsz0 hL _
  have hsz : (DataW.weightsEach Tryd.prog (Tryd.f4.params.toList ++ Rows.parserPossibleSpec.plain.varTypes Tryd.prog) (ds ++ gs)).all (· ≤ reachBytes) = true := hsz0
  have hval : ∀ (j : Nat) t v, Tryd.f4.params[j]? = some t → args[j]? = some v → Value.okWide Tryd.prog W .any base t v := hval0
  have hW' := hW
  obtain ⟨p, q, hA0, hV, rfl, _, _⟩ := hW
  have hA : DataW.TrodAll enc Tryd.prog W 0 (fun _ => true) true Tryd.f4.params.toList args.toList ds p := hA0
  rw [Tryd.params4] at hA hval hsz
  obtain ⟨v0, vs0, d0, ds0, p0, q0, hargs, rfl, rfl, h0, r0⟩ := trodAll_cons hA
  obtain ⟨rfl, rfl, rfl⟩ := trodAll_nil r0
  obtain rfl : args = #[v0] := by cases args; simp_all
  obtain ⟨rfl, rfl⟩ := trodVars_none hV
  obtain ⟨a0, rfl, rfl, rfl, y0⟩ := open_string Tryd.underlying9 (hval 0 9 v0 rfl rfl) h0
  have w0 : a0.size ≤ 140737488351232 := by
    have z := sized_string hsz (j := 0) (t := 9) rfl rfl
    rw [Array.length_toList] at z
    exact z
  clear hA0 hval0 hsz0 hsz
  refine (Pr.salchowlaw10_ParserPossible.walk Pu.parserPossible a0 W  w0).mono fun e W' ⟨he, bel⟩ => ?_
  subst he
  exact ⟨_, rfl, _, _, _, [], _, [], hW', trodAll_mk1 (shut_bool Tryd.underlying4 _), (trodAll_cons_mk (shut_string Tryd.underlying9 y0) trodAll_mk0), rfl, bel.frame _, fun h => by cases h⟩
theorem over : Rows.parserPossibleRow.holds Tryd.pinned (OpenSpec.ofChange Rows.parserPossibleSpec) :=
  OpenClaim.holds_of_wide 4 Tryd.f4 rfl rfl rfl rfl rfl rfl rfl ⟨rfl, rfl, rfl, rfl, rfl⟩ rfl rfl rfl rfl rfl (by kernel_rfl) Tryd.func4 facts
    (of_decide_eq_true (by kernel_rfl)) (by unfold Func.isWrapper; first | (rw [if_pos (by decide +kernel)]; kernel_rfl) | (rw [if_neg (by decide +kernel)]; exact ⟨rfl, rfl⟩))
    (fun os started H enc _ => lifted os started H enc)
theorem card : Rows.ParserPossibleCardSaid :=
  Claim7.holds_tied_plain_at .later [] [.data, .data, .data, .sentinel, .sentinel] true (true, "74d2011260c70b611c86c4d3b7f5d11cc5fefff18c715f175ff3522b41f9dd0c") true
    over (fun _ h => by cases h) (by kernel_rfl) (fun _ h => by cases h) parserPossible_row_tie rfl ⟨rfl, rfl⟩ mainIs_ rfl
    (fun f fn hf hfn => by
      obtain rfl : f = 4 := Option.some.inj ((show Tryd.prog.funcNamed "salchow/salchowlaw10.ParserPossible" = some 4 by kernel_rfl).symm.trans hf) |>.symm
      obtain rfl : fn = Tryd.f4 := (Option.some.inj (Tryd.func4.symm.trans hfn)).symm
      exact ⟨looks_, fun j t ht => by
        rw [Tryd.params4] at ht
        have hm : t ∈ [9] := by simpa using Array.mem_of_getElem? ht
        have hall : ([9].all fun u => !Tryd.prog.wantsStandIn u) = true := by kernel_rfl
        exact (show Tryd.prog.wantsStandIn t = false by simpa using List.all_eq_true.1 hall t hm)⟩)
    goes
#print axioms card
end Go.Proofs.YtkifdadhojbohaaDoor.parserPossible
