/- Joined out of the texts of this proof that bear the names PrF18 PyS RowPrinterShape: what each shows stands over it there. -/
import Derived.Test.YtkifdadhojbohaaDoorVk1
import Derived.Test.YtkifdadhojbohaaDoorVv1
import Derived.Test.YtkifdadhojbohaaDoorVo1
import Derived.Test.YtkifdadhojbohaaDoorVp1
import Derived.Test.YtkifdadhojbohaaDoorVr1
import Derived.Test.YtkifdadhojbohaaDoorCards
import Derived.Test.YtkifdadhojbohaaDoorTie
import Derived.WalkKit
import Derived.OpenShut
import Derived.ShutString
import Derived.ChangeOld
import Derived.SizedLaws
import Derived.SevenTiedAt
import Derived.Handed
import Derived.LaidLaws
import Derived.Lib.SmallJoins
import Derived.Carry
set_option linter.unusedVariables false
set_option linter.unusedSimpArgs false
namespace Go.Proofs.YtkifdadhojbohaaDoor.Pr
open Go.Proofs.YtkifdadhojbohaaDoor
open Go.RowKit Go.Proofs.YtkifdadhojbohaaDoorW.PrintWords Go.Proofs.YtkifdadhojbohaaDoorW.PrintLast Go.Proofs.YtkifdadhojbohaaDoorW.PrintMore
attribute [local go_sem] max2_int min2_int max_two min_two max_three min_three max_four min_four   -- for this text's walks alone
set_option linter.unusedVariables false
set_option linter.unusedSimpArgs false
mutual
def salchowlaw11_PrinterShape.l0 : Nat → ByteArray → Int → Int → Int → Option (Bool)
 | 0, _, _, _, _ => none
 | k + 1, x3, x5, x6, x7 => if x7 < (x3.size : Int) then (if 0 ≤ x7 then (if (bt x3 x7) = 10 then (if 0 ≤ x6 then (if x6 ≤ x7 then (if x7 ≤ (x3.size : Int) then (if (x3.extract (x6 : Int).toNat (x7 : Int).toNat).toList = ([] : List UInt8) then (none) else (if 0 ≤ (wrap64 (((x3.extract (x6 : Int).toNat (x7 : Int).toNat).size : Int) - 1)) then (if (wrap64 (((x3.extract (x6 : Int).toNat (x7 : Int).toNat).size : Int) - 1)) < ((x3.extract (x6 : Int).toNat (x7 : Int).toNat).size : Int) then (if (bt (x3.extract (x6 : Int).toNat (x7 : Int).toNat) (wrap64 (((x3.extract (x6 : Int).toNat (x7 : Int).toNat).size : Int) - 1))) = 125 then (salchowlaw11_PrinterShape.j1 k x3 (wrap64 (x5 - 1)) (wrap64 (x7 + 1)) x7 (x3.extract (x6 : Int).toNat (x7 : Int).toNat)) else (salchowlaw11_PrinterShape.j1 k x3 x5 (wrap64 (x7 + 1)) x7 (x3.extract (x6 : Int).toNat (x7 : Int).toNat))) else (none)) else (none))) else (none)) else (none)) else (none)) else (salchowlaw11_PrinterShape.l0 k x3 x5 x6 (wrap64 (x7 + 1)))) else (none)) else (if x5 = 0 then (some (x6 == (x3.size : Int))) else (none))
def salchowlaw11_PrinterShape.j1 : Nat → ByteArray → Int → Int → Int → ByteArray → Option (Bool)
 | 0, _, _, _, _, _ => none
 | k + 1, x3, x5, x6, x7, x8 => if x5 < 0 then (salchowlaw11_PrinterShape.j2 k x3 x5 x6 x7 x8 true) else (salchowlaw11_PrinterShape.j2 k x3 x5 x6 x7 x8 (decide ((x8.size : Int) ≤ (wrap64 (2 * x5)))))
def salchowlaw11_PrinterShape.j2 : Nat → ByteArray → Int → Int → Int → ByteArray → Bool → Option (Bool)
 | 0, _, _, _, _, _, _ => none
 | k + 1, x3, x5, x6, x7, x8, x59 => if x59 = true then (none) else (salchowlaw11_PrinterShape.l1 k x3 x5 x6 x7 x8 0)
def salchowlaw11_PrinterShape.l1 : Nat → ByteArray → Int → Int → Int → ByteArray → Int → Option (Bool)
 | 0, _, _, _, _, _, _ => none
 | k + 1, x3, x5, x6, x7, x8, x9 => if x9 < (wrap64 (2 * x5)) then (if 0 ≤ x9 then (if x9 < (x8.size : Int) then (if (bt x8 x9) = 32 then (salchowlaw11_PrinterShape.l1 k x3 x5 x6 x7 x8 (wrap64 (x9 + 1))) else (none)) else (none)) else (none)) else (if 0 ≤ (wrap64 (2 * x5)) then (if (wrap64 (2 * x5)) ≤ (x8.size : Int) then (salchowlaw11_PrinterShape.l2 k x3 x5 x6 x7 (x8.extract ((wrap64 (2 * x5)) : Int).toNat x8.size) false 0) else (none)) else (none))
def salchowlaw11_PrinterShape.l2 : Nat → ByteArray → Int → Int → Int → ByteArray → Bool → Int → Option (Bool)
 | 0, _, _, _, _, _, _, _ => none
 | k + 1, x3, x5, x6, x7, x10, x11, x12 => if x12 < (x10.size : Int) then (if 0 ≤ x12 then (if (bt x10 x12) = 34 then (if x11 = true then (if (bt x10 x12) = 32 then (if x12 = 0 then (none) else (if x12 = (wrap64 ((x10.size : Int) - 1)) then (none) else (if 0 ≤ (wrap64 (x12 + 1)) then (if (wrap64 (x12 + 1)) < (x10.size : Int) then (if (bt x10 (wrap64 (x12 + 1))) = 32 then (none) else (salchowlaw11_PrinterShape.l2 k x3 x5 x6 x7 x10 (!x11) (wrap64 (x12 + 1)))) else (none)) else (none)))) else (salchowlaw11_PrinterShape.l2 k x3 x5 x6 x7 x10 (!x11) (wrap64 (x12 + 1)))) else (salchowlaw11_PrinterShape.l2 k x3 x5 x6 x7 x10 (!x11) (wrap64 (x12 + 1)))) else (if x11 = true then (salchowlaw11_PrinterShape.l2 k x3 x5 x6 x7 x10 x11 (wrap64 (x12 + 1))) else (if (bt x10 x12) = 32 then (if x12 = 0 then (none) else (if x12 = (wrap64 ((x10.size : Int) - 1)) then (none) else (if 0 ≤ (wrap64 (x12 + 1)) then (if (wrap64 (x12 + 1)) < (x10.size : Int) then (if (bt x10 (wrap64 (x12 + 1))) = 32 then (none) else (salchowlaw11_PrinterShape.l2 k x3 x5 x6 x7 x10 x11 (wrap64 (x12 + 1)))) else (none)) else (none)))) else (salchowlaw11_PrinterShape.l2 k x3 x5 x6 x7 x10 x11 (wrap64 (x12 + 1)))))) else (none)) else (if 0 ≤ (wrap64 ((x10.size : Int) - 1)) then (if (wrap64 ((x10.size : Int) - 1)) < (x10.size : Int) then (if (bt x10 (wrap64 ((x10.size : Int) - 1))) = 123 then (salchowlaw11_PrinterShape.l0 k x3 (wrap64 (x5 + 1)) x6 (wrap64 (x7 + 1))) else (if (bt x10 (wrap64 ((x10.size : Int) - 1))) = 59 then (salchowlaw11_PrinterShape.l0 k x3 x5 x6 (wrap64 (x7 + 1))) else (if (bt x10 (wrap64 ((x10.size : Int) - 1))) = 125 then (salchowlaw11_PrinterShape.l0 k x3 x5 x6 (wrap64 (x7 + 1))) else (none)))) else (none)) else (none))
end
def salchowlaw11_PrinterShape.f (k : Nat) (l0 : List (S41)) : Option (Bool) := (salchowlaw11_awake.f k).bind fun t141 => (if t141 = true then ((salchowref10_Small.f k l0 300).bind fun t142 => (if t142 = true then ((printer_Print.f k l0).bind fun bt143 => (if bt143.2 = 0 then (salchowlaw11_PrinterShape.l0 k bt143.1 0 0 0) else (some true))) else (some true))) else (none))
theorem salchowlaw11_PrinterShape.mono_l : ∀ k, (∀ y0 y1 y2 y3, LeO (salchowlaw11_PrinterShape.l0 k y0 y1 y2 y3) (salchowlaw11_PrinterShape.l0 (k + 1) y0 y1 y2 y3)) ∧ (∀ y0 y1 y2 y3 y4, LeO (salchowlaw11_PrinterShape.j1 k y0 y1 y2 y3 y4) (salchowlaw11_PrinterShape.j1 (k + 1) y0 y1 y2 y3 y4)) ∧ (∀ y0 y1 y2 y3 y4 y5, LeO (salchowlaw11_PrinterShape.j2 k y0 y1 y2 y3 y4 y5) (salchowlaw11_PrinterShape.j2 (k + 1) y0 y1 y2 y3 y4 y5)) ∧ (∀ y0 y1 y2 y3 y4 y5, LeO (salchowlaw11_PrinterShape.l1 k y0 y1 y2 y3 y4 y5) (salchowlaw11_PrinterShape.l1 (k + 1) y0 y1 y2 y3 y4 y5)) ∧ (∀ y0 y1 y2 y3 y4 y5 y6, LeO (salchowlaw11_PrinterShape.l2 k y0 y1 y2 y3 y4 y5 y6) (salchowlaw11_PrinterShape.l2 (k + 1) y0 y1 y2 y3 y4 y5 y6))
 | 0 => ⟨fun _ _ _ _ r h => by simp [salchowlaw11_PrinterShape.l0] at h, fun _ _ _ _ _ r h => by simp [salchowlaw11_PrinterShape.j1] at h, fun _ _ _ _ _ _ r h => by simp [salchowlaw11_PrinterShape.j2] at h, fun _ _ _ _ _ _ r h => by simp [salchowlaw11_PrinterShape.l1] at h, fun _ _ _ _ _ _ _ r h => by simp [salchowlaw11_PrinterShape.l2] at h⟩
 | k + 1 => by
  obtain ⟨ih0, ih1, ih2, ih3, ih4⟩ := salchowlaw11_PrinterShape.mono_l k
  refine ⟨?_, ?_, ?_, ?_, ?_⟩
  ·
   intro y0 y1 y2 y3
   unfold salchowlaw11_PrinterShape.l0
   repeat' first
   | (with_reducible exact ih0 _ _ _ _)
   | (with_reducible exact ih1 _ _ _ _ _)
   | (with_reducible exact ih2 _ _ _ _ _ _)
   | (with_reducible exact ih3 _ _ _ _ _ _)
   | (with_reducible exact ih4 _ _ _ _ _ _ _)
   | (with_reducible exact printer_Print.mono _ _)
   | (with_reducible exact salchowlaw11_awake.mono _)
   | (with_reducible exact salchowref10_Small.mono _ _ _)
   | (with_reducible exact LeO.refl _)
   | (with_reducible exact LeO.none _)
   | (with_reducible refine LeO.ite ?_ ?_)
   | (with_reducible refine LeO.bind ?_ (fun _ => ?_))
   | exact ih0 _ _ _ _
   | exact ih1 _ _ _ _ _
   | exact ih2 _ _ _ _ _ _
   | exact ih3 _ _ _ _ _ _
   | exact ih4 _ _ _ _ _ _ _
   | exact printer_Print.mono _ _
   | exact salchowlaw11_awake.mono _
   | exact salchowref10_Small.mono _ _ _
   | exact LeO.none _
   | refine LeO.ite ?_ ?_
   | refine LeO.bind ?_ (fun _ => ?_)
  ·
   intro y0 y1 y2 y3 y4
   unfold salchowlaw11_PrinterShape.j1
   repeat' first
   | (with_reducible exact ih0 _ _ _ _)
   | (with_reducible exact ih1 _ _ _ _ _)
   | (with_reducible exact ih2 _ _ _ _ _ _)
   | (with_reducible exact ih3 _ _ _ _ _ _)
   | (with_reducible exact ih4 _ _ _ _ _ _ _)
   | (with_reducible exact printer_Print.mono _ _)
   | (with_reducible exact salchowlaw11_awake.mono _)
   | (with_reducible exact salchowref10_Small.mono _ _ _)
   | (with_reducible exact LeO.refl _)
   | (with_reducible exact LeO.none _)
   | (with_reducible refine LeO.ite ?_ ?_)
   | (with_reducible refine LeO.bind ?_ (fun _ => ?_))
   | exact ih0 _ _ _ _
   | exact ih1 _ _ _ _ _
   | exact ih2 _ _ _ _ _ _
   | exact ih3 _ _ _ _ _ _
   | exact ih4 _ _ _ _ _ _ _
   | exact printer_Print.mono _ _
   | exact salchowlaw11_awake.mono _
   | exact salchowref10_Small.mono _ _ _
   | exact LeO.none _
   | refine LeO.ite ?_ ?_
   | refine LeO.bind ?_ (fun _ => ?_)
  ·
   intro y0 y1 y2 y3 y4 y5
   unfold salchowlaw11_PrinterShape.j2
   repeat' first
   | (with_reducible exact ih0 _ _ _ _)
   | (with_reducible exact ih1 _ _ _ _ _)
   | (with_reducible exact ih2 _ _ _ _ _ _)
   | (with_reducible exact ih3 _ _ _ _ _ _)
   | (with_reducible exact ih4 _ _ _ _ _ _ _)
   | (with_reducible exact printer_Print.mono _ _)
   | (with_reducible exact salchowlaw11_awake.mono _)
   | (with_reducible exact salchowref10_Small.mono _ _ _)
   | (with_reducible exact LeO.refl _)
   | (with_reducible exact LeO.none _)
   | (with_reducible refine LeO.ite ?_ ?_)
   | (with_reducible refine LeO.bind ?_ (fun _ => ?_))
   | exact ih0 _ _ _ _
   | exact ih1 _ _ _ _ _
   | exact ih2 _ _ _ _ _ _
   | exact ih3 _ _ _ _ _ _
   | exact ih4 _ _ _ _ _ _ _
   | exact printer_Print.mono _ _
   | exact salchowlaw11_awake.mono _
   | exact salchowref10_Small.mono _ _ _
   | exact LeO.none _
   | refine LeO.ite ?_ ?_
   | refine LeO.bind ?_ (fun _ => ?_)
  ·
   intro y0 y1 y2 y3 y4 y5
   unfold salchowlaw11_PrinterShape.l1
   repeat' first
   | (with_reducible exact ih0 _ _ _ _)
   | (with_reducible exact ih1 _ _ _ _ _)
   | (with_reducible exact ih2 _ _ _ _ _ _)
   | (with_reducible exact ih3 _ _ _ _ _ _)
   | (with_reducible exact ih4 _ _ _ _ _ _ _)
   | (with_reducible exact printer_Print.mono _ _)
   | (with_reducible exact salchowlaw11_awake.mono _)
   | (with_reducible exact salchowref10_Small.mono _ _ _)
   | (with_reducible exact LeO.refl _)
   | (with_reducible exact LeO.none _)
   | (with_reducible refine LeO.ite ?_ ?_)
   | (with_reducible refine LeO.bind ?_ (fun _ => ?_))
   | exact ih0 _ _ _ _
   | exact ih1 _ _ _ _ _
   | exact ih2 _ _ _ _ _ _
   | exact ih3 _ _ _ _ _ _
   | exact ih4 _ _ _ _ _ _ _
   | exact printer_Print.mono _ _
   | exact salchowlaw11_awake.mono _
   | exact salchowref10_Small.mono _ _ _
   | exact LeO.none _
   | refine LeO.ite ?_ ?_
   | refine LeO.bind ?_ (fun _ => ?_)
  ·
   intro y0 y1 y2 y3 y4 y5 y6
   unfold salchowlaw11_PrinterShape.l2
   repeat' first
   | (with_reducible exact ih0 _ _ _ _)
   | (with_reducible exact ih1 _ _ _ _ _)
   | (with_reducible exact ih2 _ _ _ _ _ _)
   | (with_reducible exact ih3 _ _ _ _ _ _)
   | (with_reducible exact ih4 _ _ _ _ _ _ _)
   | (with_reducible exact printer_Print.mono _ _)
   | (with_reducible exact salchowlaw11_awake.mono _)
   | (with_reducible exact salchowref10_Small.mono _ _ _)
   | (with_reducible exact LeO.refl _)
   | (with_reducible exact LeO.none _)
   | (with_reducible refine LeO.ite ?_ ?_)
   | (with_reducible refine LeO.bind ?_ (fun _ => ?_))
   | exact ih0 _ _ _ _
   | exact ih1 _ _ _ _ _
   | exact ih2 _ _ _ _ _ _
   | exact ih3 _ _ _ _ _ _
   | exact ih4 _ _ _ _ _ _ _
   | exact printer_Print.mono _ _
   | exact salchowlaw11_awake.mono _
   | exact salchowref10_Small.mono _ _ _
   | exact LeO.none _
   | refine LeO.ite ?_ ?_
   | refine LeO.bind ?_ (fun _ => ?_)
theorem salchowlaw11_PrinterShape.mono : ∀ a0 k, LeO (salchowlaw11_PrinterShape.f k a0) (salchowlaw11_PrinterShape.f (k + 1) a0) := by
 intro a0 k
 obtain ⟨ih0, ih1, ih2, ih3, ih4⟩ := salchowlaw11_PrinterShape.mono_l k
 unfold salchowlaw11_PrinterShape.f
 repeat' first
   | (with_reducible exact ih0 _ _ _ _)
   | (with_reducible exact ih1 _ _ _ _ _)
   | (with_reducible exact ih2 _ _ _ _ _ _)
   | (with_reducible exact ih3 _ _ _ _ _ _)
   | (with_reducible exact ih4 _ _ _ _ _ _ _)
   | (with_reducible exact printer_Print.mono _ _)
   | (with_reducible exact salchowlaw11_awake.mono _)
   | (with_reducible exact salchowref10_Small.mono _ _ _)
   | (with_reducible exact LeO.refl _)
   | (with_reducible exact LeO.none _)
   | (with_reducible refine LeO.ite ?_ ?_)
   | (with_reducible refine LeO.bind ?_ (fun _ => ?_))
   | exact ih0 _ _ _ _
   | exact ih1 _ _ _ _ _
   | exact ih2 _ _ _ _ _ _
   | exact ih3 _ _ _ _ _ _
   | exact ih4 _ _ _ _ _ _ _
   | exact printer_Print.mono _ _
   | exact salchowlaw11_awake.mono _
   | exact salchowref10_Small.mono _ _ _
   | exact LeO.none _
   | refine LeO.ite ?_ ?_
   | refine LeO.bind ?_ (fun _ => ?_)
set_option maxHeartbeats 8000000 in
set_option maxRecDepth 100000 in
theorem salchowlaw11_PrinterShape.calls (k : Nat) (A0 : Option Addr) (c0 : Nat) (l0 : List (S41)) (r : Bool) (w : World) (hG : Gl w) (hr0 : Kd.C k41 w A0 l0.length l0) (hc0 : l0.length ≤ c0) (h : salchowlaw11_PrinterShape.f k l0 = some r) :
  Calls Tryd.prog 18 #[.slice A0 l0.length c0] w fun e w' => e = .returned (.bool r) ∧ Below w.heap.size w w' := by
 have HR0 := Aside0.mk hr0
 have HC0 := Aside0.mk hc0
 clear hr0 hc0
 have HB := Aside0.mk (Below.refl w.heap.size w)
 have H : ((salchowlaw11_awake.f k).bind fun t141 => (if t141 = true then ((salchowref10_Small.f k l0 300).bind fun t142 => (if t142 = true then ((printer_Print.f k l0).bind fun bt143 => (if bt143.2 = 0 then (salchowlaw11_PrinterShape.l0 k bt143.1 0 0 0) else (some true))) else (some true))) else (none))) = some r := h
 clear h
 replace H := Option.bind_eq_some_iff.mp H
 obtain ⟨t141, A20, H⟩ := H
 (try dsimp only at H)
 have A2 := Aside0.mk A20
 clear A20
 by_cases c3 : t141 = true
 ·
  subst c3
  have H1 : ((salchowref10_Small.f k l0 300).bind fun t142 => (if t142 = true then ((printer_Print.f k l0).bind fun bt143 => (if bt143.2 = 0 then (salchowlaw11_PrinterShape.l0 k bt143.1 0 0 0) else (some true))) else (some true))) = some r := by rw [if_pos rfl] at H; exact H
  clear H
  have H := H1
  clear H1
  replace H := Option.bind_eq_some_iff.mp H
  obtain ⟨t142, A40, H⟩ := H
  (try dsimp only at H)
  have A4 := Aside0.mk A40
  clear A40
  by_cases c5 : t142 = true
  ·
   subst c5
   have H1 : ((printer_Print.f k l0).bind fun bt143 => (if bt143.2 = 0 then (salchowlaw11_PrinterShape.l0 k bt143.1 0 0 0) else (some true))) = some r := by rw [if_pos rfl] at H; exact H
   clear H
   have H := H1
   clear H1
   replace H := Option.bind_eq_some_iff.mp H
   obtain ⟨⟨t143, t144⟩, A60, H⟩ := H
   (try dsimp only at H)
   have A6 := Aside0.mk A60
   clear A60
   by_cases c7 : t144 = 0
   ·
    rw [if_pos c7] at H
    have c7b0 := beq_iff_eq.mpr c7
    have c7b1 := bne_eq_false_iff_eq.mpr c7
    clear c7
    have H' := Aside0.mk H
    clear H
    go_enter Tryd.func18, Tryd.ntmps18
    go_wp2_with (first | ((with_reducible refine gate_callee (f := 47) rfl ?_); refine goesL_ (some 13) rfl rfl Tryd.func47 (by kernel_rfl) rfl #[] rfl ga_ ?_; (with_reducible refine (salchowlaw11_awake.calls k  true _ ?side1 A2.out).mono ?_); (case side1 => exact Gl.below hG (bl_ HB.out)); rintro e w8 ⟨rfl, hb⟩; refine ⟨_, rfl, ?_⟩; refine cut1_ (below_step (bl_ HB.out) hb) ?_; clear HB; intro HB; (try clear hb); (try clear hb2); (try clear hk); (try clear hi)) | ((with_reducible refine gate_callee (f := 45) rfl ?_); refine goesL_ (some 16) rfl rfl Tryd.func45 (by kernel_rfl) rfl #[.slice A0 l0.length c0, .int .i64 300] rfl ga_ ?_; (with_reducible refine (salchowref10_Small.calls k _ _ l0 300 true _ ?side1 ?side2 A4.out).mono ?_); (case side1 => repeat (first | exact (Kd.C_below HR0.out HB.out) | (with_reducible refine Kd.C_alloc ?_ _) | (with_reducible refine Kd.C_drewN ?_ _) | (with_reducible refine Kd.C_drew ?_))); (case side2 => exact HC0.out); rintro e w' ⟨rfl, ⟨nd, rfl⟩⟩; refine ⟨_, rfl, ?_⟩) | ((with_reducible refine gate_callee (f := 48) rfl ?_); refine goesL_ (some 20) rfl rfl Tryd.func48 (by kernel_rfl) rfl #[.slice A0 l0.length c0] rfl ga_ ?_; (with_reducible refine (printer_Print.calls k _ _ l0 t143 t144 _ ?side1 ?side2 ?side3 A6.out).mono ?_); (case side1 => exact Gl.below hG (bl_ HB.out)); (case side2 => repeat (first | exact (Kd.C_below HR0.out (bl_ HB.out)) | (with_reducible refine Kd.C_alloc ?_ _) | (with_reducible refine Kd.C_drewN ?_ _) | (with_reducible refine Kd.C_drew ?_))); (case side3 => exact HC0.out); rintro e w9 ⟨rfl, hb⟩; refine ⟨_, rfl, ?_⟩; refine cut1_ (below_step (bl_ HB.out) hb) ?_; clear HB; intro HB; (try clear hb); (try clear hb2); (try clear hk); (try clear hi)))
    go_loopg [5, 6, 7] k (fun kq v5 v6 v7 w' => ∃ (x5_1 : Int) (x6_1 : Int) (x7_1 : Int), v5 = .int .i64 x5_1 ∧ v6 = .int .i64 x6_1 ∧ v7 = .int .i64 x7_1 ∧ Aside0 (salchowlaw11_PrinterShape.l0 kq t143 x5_1 x6_1 x7_1 = some r) ∧ Aside0 (kq ≤ k) ∧ Aside0 (Below w.heap.size w w'))
    case atStart => exact ⟨(0), (0), (0), sr_, sr_, sr_, H', ⟨Nat.le_refl _⟩, ⟨bl_ HB.out⟩⟩
    case round =>
     clear H'
     try clear c1
     try clear p2
     try clear c3
     try clear c4
     try clear c5
     try clear c7
     try clear c7b0
     try clear c7b1
     obtain ⟨x5_1, x6_1, x7_1, rfl, rfl, rfl, HA, HK1, HB⟩ := hrel
     cases gk with
     | zero => exact absurd HA.out (by simp [salchowlaw11_PrinterShape.l0])
     | succ k1 =>
      have H := HA.out
      clear HA
      simp only [salchowlaw11_PrinterShape.l0] at H
      by_cases c10 : x7_1 < (t143.size : Int)
      ·
       rw [if_pos c10] at H
       have c10b0 := decide_eq_true c10
       clear c10
       by_cases c11 : 0 ≤ x7_1
       ·
        rw [if_pos c11] at H
        have c11b0 := decide_eq_true c11
        clear c11
        by_cases c13 : (bt t143 x7_1) = 10
        ·
         rw [if_pos c13] at H
         have c13b0 := beq_iff_eq.mpr c13
         have c13b1 := bne_eq_false_iff_eq.mpr c13
         clear c13
         by_cases c14 : 0 ≤ x6_1
         ·
          rw [if_pos c14] at H
          have c14b0 := eq_true c14
          have c14b1 := decide_eq_true c14
          clear c14
          by_cases c15 : x6_1 ≤ x7_1
          ·
           rw [if_pos c15] at H
           have c15b0 := eq_true c15
           have c15b1 := decide_eq_true c15
           clear c15
           by_cases c16 : x7_1 ≤ (t143.size : Int)
           ·
            rw [if_pos c16] at H
            have c16b0 := eq_true c16
            have c16b1 := decide_eq_true c16
            clear c16
            obtain ⟨x8q, hx8q⟩ : ∃ b_ : ByteArray, t143.extract (x6_1 : Int).toNat (x7_1 : Int).toNat = b_ := ⟨_, rfl⟩
            rw [hx8q] at H
            by_cases c17 : x8q.toList = ([] : List UInt8)
            ·
             rw [if_pos c17] at H
             exact absurd H (by simp)
            ·
             rw [if_neg c17] at H
             have c17b0 := beq_eq_false_iff_ne.mpr c17
             have c17b1 := bne_iff_ne.mpr c17
             (try (have c17e0 := c17b0; simp only [ByteArray.size_extract, Nat.min_self, Nat.sub_zero] at c17e0))
             (try (have c17e1 := c17b1; simp only [ByteArray.size_extract, Nat.min_self, Nat.sub_zero] at c17e1))
             obtain ⟨ji18, hji18⟩ : ∃ j_ : Int, (wrap64 ((x8q.size : Int) - 1)) = j_ := ⟨_, rfl⟩
             replace H : (if 0 ≤ (ji18) then (if (ji18) < (x8q.size : Int) then (if (bt x8q (ji18)) = 125 then (salchowlaw11_PrinterShape.j1 k1 t143 (wrap64 (x5_1 - 1)) (wrap64 (x7_1 + 1)) x7_1 x8q) else (salchowlaw11_PrinterShape.j1 k1 t143 x5_1 (wrap64 (x7_1 + 1)) x7_1 x8q)) else (none)) else (none)) = some r := by first | (rw [hji18] at H; exact H) | (simp only [hji18] at H ⊢; exact H)
             have hji18w : (IntKind.i64.wrap ((x8q.size : Int) - 1)) = ji18 := (i64_w _).trans hji18
             by_cases c19 : 0 ≤ (ji18)
             ·
              rw [if_pos c19] at H
              have c19b0 := decide_eq_true c19
              clear c19
              by_cases c20 : (ji18) < (x8q.size : Int)
              ·
               rw [if_pos c20] at H
               have c20b0 := decide_eq_true c20
               (try (have c20e0 := c20b0; simp only [ByteArray.size_extract, Nat.min_self, Nat.sub_zero] at c20e0))
               (try (have c20g0 := c20b0; simp only [ByteArray.size_extract, Nat.sub_zero, Nat.min_eq_left (show (x7_1 : Int).toNat ≤ t143.size from by have h_ : (x7_1 : Int) ≤ (t143.size : Int) := dt_; omega)] at c20g0))
               clear c20
               have HC22 := Aside0.mk H
               clear H
               have p12 : 0 ≤ (x7_1 : Int) := dt_
               have q12 : x7_1 < (t143.size : Int) := dt_
               have hx12 := bt_at t143 x7_1
               replace p12 := eq_true p12
               replace q12 := eq_true q12
               have p21 : 0 ≤ ((ji18) : Int) := dt_
               have q21 : (ji18) < (x8q.size : Int) := dt_
               have hx21 := bt_at x8q (ji18)
               replace p21 := eq_true p21
               (try (have qe21 := q21; simp only [ByteArray.size_extract, Nat.min_self, Nat.sub_zero] at qe21; replace qe21 := eq_true qe21))
               (try (have qc21 : ((ji18) : Int) < (x8q.size : Int) := by omega; simp only [ByteArray.size_extract, Nat.min_self, Nat.sub_zero] at qc21; replace qc21 := eq_true qc21))
               replace q21 := eq_true q21
               go_upto_if 48 with (fail)
               go_cut [5] (fun v5 wc => ∃ (kq : Nat) (x5_21 : Int), v5 = .int .i64 x5_21 ∧ Aside0 (salchowlaw11_PrinterShape.j1 kq t143 x5_21 (wrap64 (x7_1 + 1)) x7_1 x8q = some r) ∧ Aside0 (kq ≤ k1) ∧ Aside0 (Below w.heap.size w wc))
               case first =>
                have H := HC22.out
                clear HC22
                by_cases c23 : (bt x8q (ji18)) = 125
                ·
                 rw [if_pos c23] at H
                 have c23b0 := beq_iff_eq.mpr c23
                 have c23b1 := bne_eq_false_iff_eq.mpr c23
                 (try (have c23e0 := c23b0; simp only [ByteArray.size_extract, Nat.min_self, Nat.sub_zero] at c23e0))
                 (try (have c23e1 := c23b1; simp only [ByteArray.size_extract, Nat.min_self, Nat.sub_zero] at c23e1))
                 clear c23
                 (first | rw [c23b0] | (simp only [i64_w, i32_w]; rw [c23b0]) | skip)
                 have H' := Aside0.mk H
                 clear H
                 go_wp2
                 go_meet
                 case rel => exact ⟨_, (wrap64 (x5_1 - 1)), sr_, H', ⟨by have := HK1.out; first | omega | exact Nat.le_refl _⟩, ⟨bl_ HB.out⟩⟩
                ·
                 rw [if_neg c23] at H
                 have c23b0 := beq_eq_false_iff_ne.mpr c23
                 have c23b1 := bne_iff_ne.mpr c23
                 (try (have c23e0 := c23b0; simp only [ByteArray.size_extract, Nat.min_self, Nat.sub_zero] at c23e0))
                 (try (have c23e1 := c23b1; simp only [ByteArray.size_extract, Nat.min_self, Nat.sub_zero] at c23e1))
                 (first | rw [c23b0] | (simp only [i64_w, i32_w]; rw [c23b0]) | skip)
                 have H' := Aside0.mk H
                 clear H
                 go_wp2
                 go_meet
                 case rel => exact ⟨_, (x5_1), sr_, H', ⟨by have := HK1.out; first | omega | exact Nat.le_refl _⟩, ⟨bl_ HB.out⟩⟩
               case rest =>
                clear HC22
                try clear c1
                try clear p1
                try clear q1
                try clear hx1
                try clear qe2
                try clear qc2
                try clear c2
                try clear p2
                try clear q2
                try clear hx2
                try clear c3
                try clear c4
                try clear c5
                try clear p6
                try clear c7
                try clear c7b0
                try clear c7b1
                try clear c10
                try clear c10b0
                try clear c11
                try clear c11b0
                try clear p12
                try clear q12
                try clear hx12
                try clear c13
                try clear c13b0
                try clear c13b1
                try clear c14
                try clear c14b0
                try clear c14b1
                try clear c15
                try clear c15b0
                try clear c15b1
                try clear c16
                try clear c16b0
                try clear c16b1
                try clear c17
                try clear c17e0
                try clear c17e1
                try clear c17b0
                try clear c17b1
                try clear c18
                try clear c19
                try clear c19b0
                try clear c20g0
                try clear c20
                try clear c20e0
                try clear c20b0
                try clear qe21
                try clear qc21
                try clear c21
                try clear p21
                try clear q21
                try clear hx21
                try clear c23
                try clear c23e0
                try clear c23e1
                try clear c23b0
                try clear c23b1
                try clear p12
                try clear p2
                try clear p21
                try clear q12
                try clear q21
                obtain ⟨kq, x5_21, rfl, HA, HJ21, HB⟩ := hcut
                cases kq with
                | zero => exact absurd HA.out (by simp [salchowlaw11_PrinterShape.j1])
                | succ kj21 =>
                 have H := HA.out
                 clear HA
                 simp only [salchowlaw11_PrinterShape.j1] at H
                 have HC24 := Aside0.mk H
                 clear H
                 go_upto_region 20 with (fail)
                 go_cut [59] (fun v59 wc => ∃ (kq : Nat) (x59_23 : Bool), v59 = .bool x59_23 ∧ Aside0 (salchowlaw11_PrinterShape.j2 kq t143 x5_21 (wrap64 (x7_1 + 1)) x7_1 x8q x59_23 = some r) ∧ Aside0 (kq ≤ kj21) ∧ Aside0 (Below w.heap.size w wc))
                 case first =>
                  have H := HC24.out
                  clear HC24
                  by_cases c25 : x5_21 < 0
                  ·
                   rw [if_pos c25] at H
                   have c25b0 := decide_eq_true c25
                   clear c25
                   (first | rw [c25b0] | (simp only [i64_w, i32_w]; rw [c25b0]) | skip)
                   have H' := Aside0.mk H
                   clear H
                   go_wp2
                   go_meet
                   case rel => exact ⟨_, (true), sr_, H', ⟨by have := HK1.out; have := HJ21.out; first | omega | exact Nat.le_refl _⟩, ⟨bl_ HB.out⟩⟩
                  ·
                   rw [if_neg c25] at H
                   have c25b0 := decide_eq_false c25
                   clear c25
                   (first | rw [c25b0] | (simp only [i64_w, i32_w]; rw [c25b0]) | skip)
                   have H' := Aside0.mk H
                   clear H
                   go_wp2
                   go_meet
                   case rel => exact ⟨_, (decide ((x8q.size : Int) ≤ (wrap64 (2 * x5_21)))), sr_, H', ⟨by have := HK1.out; have := HJ21.out; first | omega | exact Nat.le_refl _⟩, ⟨bl_ HB.out⟩⟩
                 case rest =>
                  clear HC24
                  try clear c1
                  try clear p1
                  try clear q1
                  try clear hx1
                  try clear qe2
                  try clear qc2
                  try clear c2
                  try clear p2
                  try clear q2
                  try clear hx2
                  try clear c3
                  try clear c4
                  try clear c5
                  try clear p6
                  try clear c7
                  try clear c7b0
                  try clear c7b1
                  try clear c10
                  try clear c10b0
                  try clear c11
                  try clear c11b0
                  try clear p12
                  try clear q12
                  try clear hx12
                  try clear c13
                  try clear c13b0
                  try clear c13b1
                  try clear c14
                  try clear c14b0
                  try clear c14b1
                  try clear c15
                  try clear c15b0
                  try clear c15b1
                  try clear c16
                  try clear c16b0
                  try clear c16b1
                  try clear c17
                  try clear c17e0
                  try clear c17e1
                  try clear c17b0
                  try clear c17b1
                  try clear c18
                  try clear c19
                  try clear c19b0
                  try clear c20g0
                  try clear c20
                  try clear c20e0
                  try clear c20b0
                  try clear qe21
                  try clear qc21
                  try clear c21
                  try clear p21
                  try clear q21
                  try clear hx21
                  try clear c23
                  try clear c23e0
                  try clear c23e1
                  try clear c23b0
                  try clear c23b1
                  try clear c25
                  try clear c25b0
                  try clear p1
                  try clear p12
                  try clear p2
                  try clear p21
                  try clear p6
                  try clear q1
                  try clear q12
                  try clear q2
                  try clear q21
                  obtain ⟨kq, x59_23, rfl, HA, HJ23, HB⟩ := hcut
                  cases kq with
                  | zero => exact absurd HA.out (by simp [salchowlaw11_PrinterShape.j2])
                  | succ kj23 =>
                   have H := HA.out
                   clear HA
                   simp only [salchowlaw11_PrinterShape.j2] at H
                   by_cases c26 : x59_23 = true
                   ·
                    subst c26
                    have H1 : (none) = some r := by rw [if_pos rfl] at H; exact H
                    clear H
                    have H := H1
                    clear H1
                    exact absurd H (by simp)
                   ·
                    replace c26 := Bool.eq_false_iff.mpr c26
                    subst c26
                    have H1 : (salchowlaw11_PrinterShape.l1 kj23 t143 x5_21 (wrap64 (x7_1 + 1)) x7_1 x8q 0) = some r := by rw [if_neg (show ¬ (false = true) by decide)] at H; exact H
                    clear H
                    have H := H1
                    clear H1
                    have H' := Aside0.mk H
                    clear H
                    go_wp2
                    go_loopg [9] kj23 (fun kq v9 w' => ∃ (x9_4 : Int), v9 = .int .i64 x9_4 ∧ Aside0 (salchowlaw11_PrinterShape.l1 kq t143 x5_21 (wrap64 (x7_1 + 1)) x7_1 x8q x9_4 = some r) ∧ Aside0 (kq ≤ kj23) ∧ Aside0 (Below w.heap.size w w'))
                    case atStart => exact ⟨(0), sr_, H', ⟨Nat.le_refl _⟩, ⟨bl_ HB.out⟩⟩
                    case round =>
                     clear H'
                     try clear c1
                     try clear p1
                     try clear q1
                     try clear hx1
                     try clear qe2
                     try clear qc2
                     try clear c2
                     try clear p2
                     try clear q2
                     try clear hx2
                     try clear c3
                     try clear c4
                     try clear c5
                     try clear p6
                     try clear c7
                     try clear c7b0
                     try clear c7b1
                     try clear c10
                     try clear c10b0
                     try clear c11
                     try clear c11b0
                     try clear p12
                     try clear q12
                     try clear hx12
                     try clear c13
                     try clear c13b0
                     try clear c13b1
                     try clear c14
                     try clear c14b0
                     try clear c14b1
                     try clear c15
                     try clear c15b0
                     try clear c15b1
                     try clear c16
                     try clear c16b0
                     try clear c16b1
                     try clear c17
                     try clear c17e0
                     try clear c17e1
                     try clear c17b0
                     try clear c17b1
                     try clear c18
                     try clear c19
                     try clear c19b0
                     try clear c20g0
                     try clear c20
                     try clear c20e0
                     try clear c20b0
                     try clear qe21
                     try clear qc21
                     try clear c21
                     try clear p21
                     try clear q21
                     try clear hx21
                     try clear c23
                     try clear c23e0
                     try clear c23e1
                     try clear c23b0
                     try clear c23b1
                     try clear c25
                     try clear c25b0
                     try clear c26
                     try clear p1
                     try clear p12
                     try clear p2
                     try clear p21
                     try clear p6
                     try clear q1
                     try clear q12
                     try clear q2
                     try clear q21
                     obtain ⟨x9_4, rfl, HA, HK4, HB⟩ := hrel
                     cases gk with
                     | zero => exact absurd HA.out (by simp [salchowlaw11_PrinterShape.l1])
                     | succ k4 =>
                      have H := HA.out
                      clear HA
                      simp only [salchowlaw11_PrinterShape.l1] at H
                      by_cases c27 : x9_4 < (wrap64 (2 * x5_21))
                      ·
                       rw [if_pos c27] at H
                       have c27b0 := decide_eq_true c27
                       clear c27
                       by_cases c28 : 0 ≤ x9_4
                       ·
                        rw [if_pos c28] at H
                        have c28b0 := decide_eq_true c28
                        clear c28
                        by_cases c29 : x9_4 < (x8q.size : Int)
                        ·
                         rw [if_pos c29] at H
                         have c29b0 := decide_eq_true c29
                         (try (have c29e0 := c29b0; simp only [ByteArray.size_extract, Nat.min_self, Nat.sub_zero] at c29e0))
                         (try (have c29g0 := c29b0; simp only [ByteArray.size_extract, Nat.sub_zero, Nat.min_eq_left (show (x7_1 : Int).toNat ≤ t143.size from by have h_ : (x7_1 : Int) ≤ (t143.size : Int) := dt_; omega)] at c29g0))
                         clear c29
                         by_cases c31 : (bt x8q x9_4) = 32
                         ·
                          rw [if_pos c31] at H
                          have c31b0 := beq_iff_eq.mpr c31
                          have c31b1 := bne_eq_false_iff_eq.mpr c31
                          (try (have c31e0 := c31b0; simp only [ByteArray.size_extract, Nat.min_self, Nat.sub_zero] at c31e0))
                          (try (have c31e1 := c31b1; simp only [ByteArray.size_extract, Nat.min_self, Nat.sub_zero] at c31e1))
                          clear c31
                          have H' := Aside0.mk H
                          clear H
                          have p30 : 0 ≤ (x9_4 : Int) := dt_
                          have q30 : x9_4 < (x8q.size : Int) := dt_
                          have hx30 := bt_at x8q x9_4
                          replace p30 := eq_true p30
                          (try (have qe30 := q30; simp only [ByteArray.size_extract, Nat.min_self, Nat.sub_zero] at qe30; replace qe30 := eq_true qe30))
                          (try (have qc30 : (x9_4 : Int) < (x8q.size : Int) := by omega; simp only [ByteArray.size_extract, Nat.min_self, Nat.sub_zero] at qc30; replace qc30 := eq_true qc30))
                          replace q30 := eq_true q30
                          go_wp2
                          go_roundg k4
                          case measure => have := HK1.out; have := HJ21.out; have := HJ23.out; have := HK4.out; omega
                          case rel => exact ⟨(wrap64 (x9_4 + 1)), sr_, H', ⟨by have := HK1.out; have := HJ21.out; have := HJ23.out; have := HK4.out; omega⟩, ⟨bl_ HB.out⟩⟩
                         ·
                          rw [if_neg c31] at H
                          exact absurd H (by simp)
                        ·
                         rw [if_neg c29] at H
                         exact absurd H (by simp)
                       ·
                        rw [if_neg c28] at H
                        exact absurd H (by simp)
                      ·
                       rw [if_neg c27] at H
                       have c27b0 := decide_eq_false c27
                       clear c27
                       obtain ⟨ji32, hji32⟩ : ∃ j_ : Int, (wrap64 (2 * x5_21)) = j_ := ⟨_, rfl⟩
                       replace H : (if 0 ≤ (ji32) then (if (ji32) ≤ (x8q.size : Int) then (salchowlaw11_PrinterShape.l2 k4 t143 x5_21 (wrap64 (x7_1 + 1)) x7_1 (x8q.extract ((ji32) : Int).toNat x8q.size) false 0) else (none)) else (none)) = some r := by first | (rw [hji32] at H; exact H) | (simp only [hji32] at H ⊢; exact H)
                       obtain ⟨x10q0, hx10q0⟩ : ∃ b_ : ByteArray, x8q.extract ((ji32) : Int).toNat x8q.size = b_ := ⟨_, rfl⟩
                       rw [hx10q0] at H
                       (try rw [hji32] at c27b0)
                       have hji32w : (IntKind.i64.wrap (2 * x5_21)) = ji32 := (i64_w _).trans hji32
                       by_cases c33 : 0 ≤ (ji32)
                       ·
                        rw [if_pos c33] at H
                        have c33b0 := eq_true c33
                        have c33b1 := decide_eq_true c33
                        clear c33
                        by_cases c34 : (ji32) ≤ (x8q.size : Int)
                        ·
                         rw [if_pos c34] at H
                         have c34b0 := eq_true c34
                         have c34b1 := decide_eq_true c34
                         clear c34
                         have H' := Aside0.mk H
                         clear H
                         go_wp2
                         go_loopg [11, 12] k4 (fun kq v11 v12 w' => ∃ (x11_5 : Bool) (x12_5 : Int), v11 = .bool x11_5 ∧ v12 = .int .i64 x12_5 ∧ Aside0 (salchowlaw11_PrinterShape.l2 kq t143 x5_21 (wrap64 (x7_1 + 1)) x7_1 x10q0 x11_5 x12_5 = some r) ∧ Aside0 (kq ≤ k4) ∧ Aside0 (Below w.heap.size w w'))
                         case atStart => exact ⟨(false), (0), sr_, sr_, H', ⟨Nat.le_refl _⟩, ⟨bl_ HB.out⟩⟩
                         case round =>
                          clear H'
                          try clear c1
                          try clear p1
                          try clear q1
                          try clear hx1
                          try clear qe2
                          try clear qc2
                          try clear c2
                          try clear p2
                          try clear q2
                          try clear hx2
                          try clear qe3
                          try clear qc3
                          try clear c3
                          try clear p3
                          try clear q3
                          try clear hx3
                          try clear c4
                          try clear c5
                          try clear p6
                          try clear c7
                          try clear c7b0
                          try clear c7b1
                          try clear c10
                          try clear c10b0
                          try clear c11
                          try clear c11b0
                          try clear p12
                          try clear q12
                          try clear hx12
                          try clear c13
                          try clear c13b0
                          try clear c13b1
                          try clear c14
                          try clear c14b0
                          try clear c14b1
                          try clear c15
                          try clear c15b0
                          try clear c15b1
                          try clear c16
                          try clear c16b0
                          try clear c16b1
                          try clear c17
                          try clear c17e0
                          try clear c17e1
                          try clear c17b0
                          try clear c17b1
                          try clear c18
                          try clear c19
                          try clear c19b0
                          try clear c20g0
                          try clear c20
                          try clear c20e0
                          try clear c20b0
                          try clear qe21
                          try clear qc21
                          try clear c21
                          try clear p21
                          try clear q21
                          try clear hx21
                          try clear c23
                          try clear c23e0
                          try clear c23e1
                          try clear c23b0
                          try clear c23b1
                          try clear c25
                          try clear c25b0
                          try clear c26
                          try clear c27
                          try clear c27b0
                          try clear c28
                          try clear c28b0
                          try clear c29g0
                          try clear c29
                          try clear c29e0
                          try clear c29b0
                          try clear qe30
                          try clear qc30
                          try clear c30
                          try clear p30
                          try clear q30
                          try clear hx30
                          try clear c31
                          try clear c31e0
                          try clear c31e1
                          try clear c31b0
                          try clear c31b1
                          try clear c33
                          try clear c33b0
                          try clear c33b1
                          try clear c34
                          try clear c34b0
                          try clear c34b1
                          try clear p1
                          try clear p12
                          try clear p2
                          try clear p21
                          try clear p30
                          try clear p6
                          try clear q1
                          try clear q12
                          try clear q2
                          try clear q21
                          try clear q30
                          obtain ⟨x11_5, x12_5, rfl, rfl, HA, HK5, HB⟩ := hrel
                          cases gk with
                          | zero => exact absurd HA.out (by simp [salchowlaw11_PrinterShape.l2])
                          | succ k5 =>
                           have H := HA.out
                           clear HA
                           simp only [salchowlaw11_PrinterShape.l2] at H
                           by_cases c35 : x12_5 < (x10q0.size : Int)
                           ·
                            rw [if_pos c35] at H
                            have c35b0 := decide_eq_true c35
                            (try (have c35e0 := c35b0; simp only [ByteArray.size_extract, Nat.min_self, Nat.sub_zero] at c35e0))
                            (try (have c35g0 := c35b0; simp only [ByteArray.size_extract, Nat.sub_zero, Nat.min_eq_left (show (x7_1 : Int).toNat ≤ t143.size from by have h_ : (x7_1 : Int) ≤ (t143.size : Int) := dt_; omega)] at c35g0))
                            clear c35
                            by_cases c36 : 0 ≤ x12_5
                            ·
                             rw [if_pos c36] at H
                             have c36b0 := decide_eq_true c36
                             clear c36
                             by_cases c38 : (bt x10q0 x12_5) = 34
                             ·
                              rw [if_pos c38] at H
                              have c38b0 := beq_iff_eq.mpr c38
                              have c38b1 := bne_eq_false_iff_eq.mpr c38
                              (try (have c38e0 := c38b0; simp only [ByteArray.size_extract, Nat.min_self, Nat.sub_zero] at c38e0))
                              (try (have c38e1 := c38b1; simp only [ByteArray.size_extract, Nat.min_self, Nat.sub_zero] at c38e1))
                              (try (have c38g0 := c38b0; simp only [ByteArray.size_extract, Nat.sub_zero, Nat.min_eq_left (show (x7_1 : Int).toNat ≤ t143.size from by have h_ : (x7_1 : Int) ≤ (t143.size : Int) := dt_; omega)] at c38g0))
                              (try (have c38g1 := c38b1; simp only [ByteArray.size_extract, Nat.sub_zero, Nat.min_eq_left (show (x7_1 : Int).toNat ≤ t143.size from by have h_ : (x7_1 : Int) ≤ (t143.size : Int) := dt_; omega)] at c38g1))
                              clear c38
                              by_cases c39 : x11_5 = true
                              ·
                               subst c39
                               have H1 : (if (bt x10q0 x12_5) = 32 then (if x12_5 = 0 then (none) else (if x12_5 = (wrap64 ((x10q0.size : Int) - 1)) then (none) else (if 0 ≤ (wrap64 (x12_5 + 1)) then (if (wrap64 (x12_5 + 1)) < (x10q0.size : Int) then (if (bt x10q0 (wrap64 (x12_5 + 1))) = 32 then (none) else (salchowlaw11_PrinterShape.l2 k5 t143 x5_21 (wrap64 (x7_1 + 1)) x7_1 x10q0 (!true) (wrap64 (x12_5 + 1)))) else (none)) else (none)))) else (salchowlaw11_PrinterShape.l2 k5 t143 x5_21 (wrap64 (x7_1 + 1)) x7_1 x10q0 (!true) (wrap64 (x12_5 + 1)))) = some r := by rw [if_pos rfl] at H; exact H
                               clear H
                               have H := H1
                               clear H1
                               by_cases c41 : (bt x10q0 x12_5) = 32
                               ·
                                rw [if_pos c41] at H
                                have c41b0 := beq_iff_eq.mpr c41
                                have c41b1 := bne_eq_false_iff_eq.mpr c41
                                (try (have c41e0 := c41b0; simp only [ByteArray.size_extract, Nat.min_self, Nat.sub_zero] at c41e0))
                                (try (have c41e1 := c41b1; simp only [ByteArray.size_extract, Nat.min_self, Nat.sub_zero] at c41e1))
                                (try (have c41g0 := c41b0; simp only [ByteArray.size_extract, Nat.sub_zero, Nat.min_eq_left (show (x7_1 : Int).toNat ≤ t143.size from by have h_ : (x7_1 : Int) ≤ (t143.size : Int) := dt_; omega)] at c41g0))
                                (try (have c41g1 := c41b1; simp only [ByteArray.size_extract, Nat.sub_zero, Nat.min_eq_left (show (x7_1 : Int).toNat ≤ t143.size from by have h_ : (x7_1 : Int) ≤ (t143.size : Int) := dt_; omega)] at c41g1))
                                clear c41
                                by_cases c42 : x12_5 = 0
                                ·
                                 rw [if_pos c42] at H
                                 exact absurd H (by simp)
                                ·
                                 rw [if_neg c42] at H
                                 have c42b0 := beq_eq_false_iff_ne.mpr c42
                                 have c42b1 := bne_iff_ne.mpr c42
                                 by_cases c43 : x12_5 = (wrap64 ((x10q0.size : Int) - 1))
                                 ·
                                  rw [if_pos c43] at H
                                  exact absurd H (by simp)
                                 ·
                                  rw [if_neg c43] at H
                                  have c43b0 := beq_eq_false_iff_ne.mpr c43
                                  have c43b1 := bne_iff_ne.mpr c43
                                  (try (have c43e0 := c43b0; simp only [ByteArray.size_extract, Nat.min_self, Nat.sub_zero] at c43e0))
                                  (try (have c43e1 := c43b1; simp only [ByteArray.size_extract, Nat.min_self, Nat.sub_zero] at c43e1))
                                  (try (have c43g0 := c43b0; simp only [ByteArray.size_extract, Nat.sub_zero, Nat.min_eq_left (show (x7_1 : Int).toNat ≤ t143.size from by have h_ : (x7_1 : Int) ≤ (t143.size : Int) := dt_; omega)] at c43g0))
                                  (try (have c43g1 := c43b1; simp only [ByteArray.size_extract, Nat.sub_zero, Nat.min_eq_left (show (x7_1 : Int).toNat ≤ t143.size from by have h_ : (x7_1 : Int) ≤ (t143.size : Int) := dt_; omega)] at c43g1))
                                  obtain ⟨ji44, hji44⟩ : ∃ j_ : Int, (wrap64 (x12_5 + 1)) = j_ := ⟨_, rfl⟩
                                  replace H : (if 0 ≤ (ji44) then (if (ji44) < (x10q0.size : Int) then (if (bt x10q0 (ji44)) = 32 then (none) else (salchowlaw11_PrinterShape.l2 k5 t143 x5_21 (wrap64 (x7_1 + 1)) x7_1 x10q0 (!true) ji44)) else (none)) else (none)) = some r := by first | (rw [hji44] at H; exact H) | (simp only [hji44] at H ⊢; exact H)
                                  have hji44w : (IntKind.i64.wrap (x12_5 + 1)) = ji44 := (i64_w _).trans hji44
                                  by_cases c45 : 0 ≤ (ji44)
                                  ·
                                   rw [if_pos c45] at H
                                   have c45b0 := decide_eq_true c45
                                   clear c45
                                   by_cases c46 : (ji44) < (x10q0.size : Int)
                                   ·
                                    rw [if_pos c46] at H
                                    have c46b0 := decide_eq_true c46
                                    (try (have c46e0 := c46b0; simp only [ByteArray.size_extract, Nat.min_self, Nat.sub_zero] at c46e0))
                                    (try (have c46g0 := c46b0; simp only [ByteArray.size_extract, Nat.sub_zero, Nat.min_eq_left (show (x7_1 : Int).toNat ≤ t143.size from by have h_ : (x7_1 : Int) ≤ (t143.size : Int) := dt_; omega)] at c46g0))
                                    clear c46
                                    by_cases c48 : (bt x10q0 (ji44)) = 32
                                    ·
                                     rw [if_pos c48] at H
                                     exact absurd H (by simp)
                                    ·
                                     rw [if_neg c48] at H
                                     have c48b0 := beq_eq_false_iff_ne.mpr c48
                                     have c48b1 := bne_iff_ne.mpr c48
                                     (try (have c48e0 := c48b0; simp only [ByteArray.size_extract, Nat.min_self, Nat.sub_zero] at c48e0))
                                     (try (have c48e1 := c48b1; simp only [ByteArray.size_extract, Nat.min_self, Nat.sub_zero] at c48e1))
                                     (try (have c48g0 := c48b0; simp only [ByteArray.size_extract, Nat.sub_zero, Nat.min_eq_left (show (x7_1 : Int).toNat ≤ t143.size from by have h_ : (x7_1 : Int) ≤ (t143.size : Int) := dt_; omega)] at c48g0))
                                     (try (have c48g1 := c48b1; simp only [ByteArray.size_extract, Nat.sub_zero, Nat.min_eq_left (show (x7_1 : Int).toNat ≤ t143.size from by have h_ : (x7_1 : Int) ≤ (t143.size : Int) := dt_; omega)] at c48g1))
                                     have H' := Aside0.mk H
                                     clear H
                                     have p37 : 0 ≤ (x12_5 : Int) := dt_
                                     have q37 : x12_5 < (x10q0.size : Int) := dt_
                                     have hx37 := bt_at x10q0 x12_5
                                     replace p37 := eq_true p37
                                     (try (have qe37 := q37; simp only [ByteArray.size_extract, Nat.min_self, Nat.sub_zero] at qe37; replace qe37 := eq_true qe37))
                                     (try (have qc37 : (x12_5 : Int) < (x10q0.size : Int) := by omega; simp only [ByteArray.size_extract, Nat.min_self, Nat.sub_zero] at qc37; replace qc37 := eq_true qc37))
                                     replace q37 := eq_true q37
                                     have p40 : 0 ≤ (x12_5 : Int) := dt_
                                     have q40 : x12_5 < (x10q0.size : Int) := dt_
                                     have hx40 := bt_at x10q0 x12_5
                                     replace p40 := eq_true p40
                                     (try (have qe40 := q40; simp only [ByteArray.size_extract, Nat.min_self, Nat.sub_zero] at qe40; replace qe40 := eq_true qe40))
                                     (try (have qc40 : (x12_5 : Int) < (x10q0.size : Int) := by omega; simp only [ByteArray.size_extract, Nat.min_self, Nat.sub_zero] at qc40; replace qc40 := eq_true qc40))
                                     replace q40 := eq_true q40
                                     have p47 : 0 ≤ ((ji44) : Int) := dt_
                                     have q47 : (ji44) < (x10q0.size : Int) := dt_
                                     have hx47 := bt_at x10q0 (ji44)
                                     replace p47 := eq_true p47
                                     (try (have qe47 := q47; simp only [ByteArray.size_extract, Nat.min_self, Nat.sub_zero] at qe47; replace qe47 := eq_true qe47))
                                     (try (have qc47 : ((ji44) : Int) < (x10q0.size : Int) := by omega; simp only [ByteArray.size_extract, Nat.min_self, Nat.sub_zero] at qc47; replace qc47 := eq_true qc47))
                                     replace q47 := eq_true q47
                                     go_wp2
                                     go_roundg k5
                                     case measure => have := HK1.out; have := HJ21.out; have := HJ23.out; have := HK4.out; have := HK5.out; omega
                                     case rel => exact ⟨(!true), (ji44), sr_, (by first | rfl | (simp; done) | (simp only [← hji44] <;> (first | rfl | simp)) | (simp [*]; done)), H', ⟨by have := HK1.out; have := HJ21.out; have := HJ23.out; have := HK4.out; have := HK5.out; omega⟩, ⟨bl_ HB.out⟩⟩
                                   ·
                                    rw [if_neg c46] at H
                                    exact absurd H (by simp)
                                  ·
                                   rw [if_neg c45] at H
                                   exact absurd H (by simp)
                               ·
                                rw [if_neg c41] at H
                                have c41b0 := beq_eq_false_iff_ne.mpr c41
                                have c41b1 := bne_iff_ne.mpr c41
                                (try (have c41e0 := c41b0; simp only [ByteArray.size_extract, Nat.min_self, Nat.sub_zero] at c41e0))
                                (try (have c41e1 := c41b1; simp only [ByteArray.size_extract, Nat.min_self, Nat.sub_zero] at c41e1))
                                (try (have c41g0 := c41b0; simp only [ByteArray.size_extract, Nat.sub_zero, Nat.min_eq_left (show (x7_1 : Int).toNat ≤ t143.size from by have h_ : (x7_1 : Int) ≤ (t143.size : Int) := dt_; omega)] at c41g0))
                                (try (have c41g1 := c41b1; simp only [ByteArray.size_extract, Nat.sub_zero, Nat.min_eq_left (show (x7_1 : Int).toNat ≤ t143.size from by have h_ : (x7_1 : Int) ≤ (t143.size : Int) := dt_; omega)] at c41g1))
                                have H' := Aside0.mk H
                                clear H
                                have p37 : 0 ≤ (x12_5 : Int) := dt_
                                have q37 : x12_5 < (x10q0.size : Int) := dt_
                                have hx37 := bt_at x10q0 x12_5
                                replace p37 := eq_true p37
                                (try (have qe37 := q37; simp only [ByteArray.size_extract, Nat.min_self, Nat.sub_zero] at qe37; replace qe37 := eq_true qe37))
                                (try (have qc37 : (x12_5 : Int) < (x10q0.size : Int) := by omega; simp only [ByteArray.size_extract, Nat.min_self, Nat.sub_zero] at qc37; replace qc37 := eq_true qc37))
                                replace q37 := eq_true q37
                                have p40 : 0 ≤ (x12_5 : Int) := dt_
                                have q40 : x12_5 < (x10q0.size : Int) := dt_
                                have hx40 := bt_at x10q0 x12_5
                                replace p40 := eq_true p40
                                (try (have qe40 := q40; simp only [ByteArray.size_extract, Nat.min_self, Nat.sub_zero] at qe40; replace qe40 := eq_true qe40))
                                (try (have qc40 : (x12_5 : Int) < (x10q0.size : Int) := by omega; simp only [ByteArray.size_extract, Nat.min_self, Nat.sub_zero] at qc40; replace qc40 := eq_true qc40))
                                replace q40 := eq_true q40
                                go_wp2
                                go_roundg k5
                                case measure => have := HK1.out; have := HJ21.out; have := HJ23.out; have := HK4.out; have := HK5.out; omega
                                case rel => exact ⟨(!true), (wrap64 (x12_5 + 1)), sr_, sr_, H', ⟨by have := HK1.out; have := HJ21.out; have := HJ23.out; have := HK4.out; have := HK5.out; omega⟩, ⟨bl_ HB.out⟩⟩
                              ·
                               replace c39 := Bool.eq_false_iff.mpr c39
                               subst c39
                               have H1 : (salchowlaw11_PrinterShape.l2 k5 t143 x5_21 (wrap64 (x7_1 + 1)) x7_1 x10q0 (!false) (wrap64 (x12_5 + 1))) = some r := by rw [if_neg (show ¬ (false = true) by decide)] at H; exact H
                               clear H
                               have H := H1
                               clear H1
                               have H' := Aside0.mk H
                               clear H
                               have p37 : 0 ≤ (x12_5 : Int) := dt_
                               have q37 : x12_5 < (x10q0.size : Int) := dt_
                               have hx37 := bt_at x10q0 x12_5
                               replace p37 := eq_true p37
                               (try (have qe37 := q37; simp only [ByteArray.size_extract, Nat.min_self, Nat.sub_zero] at qe37; replace qe37 := eq_true qe37))
                               (try (have qc37 : (x12_5 : Int) < (x10q0.size : Int) := by omega; simp only [ByteArray.size_extract, Nat.min_self, Nat.sub_zero] at qc37; replace qc37 := eq_true qc37))
                               replace q37 := eq_true q37
                               go_wp2
                               go_roundg k5
                               case measure => have := HK1.out; have := HJ21.out; have := HJ23.out; have := HK4.out; have := HK5.out; omega
                               case rel => exact ⟨(!false), (wrap64 (x12_5 + 1)), sr_, sr_, H', ⟨by have := HK1.out; have := HJ21.out; have := HJ23.out; have := HK4.out; have := HK5.out; omega⟩, ⟨bl_ HB.out⟩⟩
                             ·
                              rw [if_neg c38] at H
                              have c38b0 := beq_eq_false_iff_ne.mpr c38
                              have c38b1 := bne_iff_ne.mpr c38
                              (try (have c38e0 := c38b0; simp only [ByteArray.size_extract, Nat.min_self, Nat.sub_zero] at c38e0))
                              (try (have c38e1 := c38b1; simp only [ByteArray.size_extract, Nat.min_self, Nat.sub_zero] at c38e1))
                              (try (have c38g0 := c38b0; simp only [ByteArray.size_extract, Nat.sub_zero, Nat.min_eq_left (show (x7_1 : Int).toNat ≤ t143.size from by have h_ : (x7_1 : Int) ≤ (t143.size : Int) := dt_; omega)] at c38g0))
                              (try (have c38g1 := c38b1; simp only [ByteArray.size_extract, Nat.sub_zero, Nat.min_eq_left (show (x7_1 : Int).toNat ≤ t143.size from by have h_ : (x7_1 : Int) ≤ (t143.size : Int) := dt_; omega)] at c38g1))
                              by_cases c49 : x11_5 = true
                              ·
                               subst c49
                               have H1 : (salchowlaw11_PrinterShape.l2 k5 t143 x5_21 (wrap64 (x7_1 + 1)) x7_1 x10q0 true (wrap64 (x12_5 + 1))) = some r := by rw [if_pos rfl] at H; exact H
                               clear H
                               have H := H1
                               clear H1
                               have H' := Aside0.mk H
                               clear H
                               have p37 : 0 ≤ (x12_5 : Int) := dt_
                               have q37 : x12_5 < (x10q0.size : Int) := dt_
                               have hx37 := bt_at x10q0 x12_5
                               replace p37 := eq_true p37
                               (try (have qe37 := q37; simp only [ByteArray.size_extract, Nat.min_self, Nat.sub_zero] at qe37; replace qe37 := eq_true qe37))
                               (try (have qc37 : (x12_5 : Int) < (x10q0.size : Int) := by omega; simp only [ByteArray.size_extract, Nat.min_self, Nat.sub_zero] at qc37; replace qc37 := eq_true qc37))
                               replace q37 := eq_true q37
                               go_wp2
                               go_roundg k5
                               case measure => have := HK1.out; have := HJ21.out; have := HJ23.out; have := HK4.out; have := HK5.out; omega
                               case rel => exact ⟨(true), (wrap64 (x12_5 + 1)), sr_, sr_, H', ⟨by have := HK1.out; have := HJ21.out; have := HJ23.out; have := HK4.out; have := HK5.out; omega⟩, ⟨bl_ HB.out⟩⟩
                              ·
                               replace c49 := Bool.eq_false_iff.mpr c49
                               subst c49
                               have H1 : (if (bt x10q0 x12_5) = 32 then (if x12_5 = 0 then (none) else (if x12_5 = (wrap64 ((x10q0.size : Int) - 1)) then (none) else (if 0 ≤ (wrap64 (x12_5 + 1)) then (if (wrap64 (x12_5 + 1)) < (x10q0.size : Int) then (if (bt x10q0 (wrap64 (x12_5 + 1))) = 32 then (none) else (salchowlaw11_PrinterShape.l2 k5 t143 x5_21 (wrap64 (x7_1 + 1)) x7_1 x10q0 false (wrap64 (x12_5 + 1)))) else (none)) else (none)))) else (salchowlaw11_PrinterShape.l2 k5 t143 x5_21 (wrap64 (x7_1 + 1)) x7_1 x10q0 false (wrap64 (x12_5 + 1)))) = some r := by rw [if_neg (show ¬ (false = true) by decide)] at H; exact H
                               clear H
                               have H := H1
                               clear H1
                               by_cases c51 : (bt x10q0 x12_5) = 32
                               ·
                                rw [if_pos c51] at H
                                have c51b0 := beq_iff_eq.mpr c51
                                have c51b1 := bne_eq_false_iff_eq.mpr c51
                                (try (have c51e0 := c51b0; simp only [ByteArray.size_extract, Nat.min_self, Nat.sub_zero] at c51e0))
                                (try (have c51e1 := c51b1; simp only [ByteArray.size_extract, Nat.min_self, Nat.sub_zero] at c51e1))
                                (try (have c51g0 := c51b0; simp only [ByteArray.size_extract, Nat.sub_zero, Nat.min_eq_left (show (x7_1 : Int).toNat ≤ t143.size from by have h_ : (x7_1 : Int) ≤ (t143.size : Int) := dt_; omega)] at c51g0))
                                (try (have c51g1 := c51b1; simp only [ByteArray.size_extract, Nat.sub_zero, Nat.min_eq_left (show (x7_1 : Int).toNat ≤ t143.size from by have h_ : (x7_1 : Int) ≤ (t143.size : Int) := dt_; omega)] at c51g1))
                                clear c51
                                by_cases c52 : x12_5 = 0
                                ·
                                 rw [if_pos c52] at H
                                 exact absurd H (by simp)
                                ·
                                 rw [if_neg c52] at H
                                 have c52b0 := beq_eq_false_iff_ne.mpr c52
                                 have c52b1 := bne_iff_ne.mpr c52
                                 by_cases c53 : x12_5 = (wrap64 ((x10q0.size : Int) - 1))
                                 ·
                                  rw [if_pos c53] at H
                                  exact absurd H (by simp)
                                 ·
                                  rw [if_neg c53] at H
                                  have c53b0 := beq_eq_false_iff_ne.mpr c53
                                  have c53b1 := bne_iff_ne.mpr c53
                                  (try (have c53e0 := c53b0; simp only [ByteArray.size_extract, Nat.min_self, Nat.sub_zero] at c53e0))
                                  (try (have c53e1 := c53b1; simp only [ByteArray.size_extract, Nat.min_self, Nat.sub_zero] at c53e1))
                                  (try (have c53g0 := c53b0; simp only [ByteArray.size_extract, Nat.sub_zero, Nat.min_eq_left (show (x7_1 : Int).toNat ≤ t143.size from by have h_ : (x7_1 : Int) ≤ (t143.size : Int) := dt_; omega)] at c53g0))
                                  (try (have c53g1 := c53b1; simp only [ByteArray.size_extract, Nat.sub_zero, Nat.min_eq_left (show (x7_1 : Int).toNat ≤ t143.size from by have h_ : (x7_1 : Int) ≤ (t143.size : Int) := dt_; omega)] at c53g1))
                                  obtain ⟨ji54, hji54⟩ : ∃ j_ : Int, (wrap64 (x12_5 + 1)) = j_ := ⟨_, rfl⟩
                                  replace H : (if 0 ≤ (ji54) then (if (ji54) < (x10q0.size : Int) then (if (bt x10q0 (ji54)) = 32 then (none) else (salchowlaw11_PrinterShape.l2 k5 t143 x5_21 (wrap64 (x7_1 + 1)) x7_1 x10q0 false ji54)) else (none)) else (none)) = some r := by first | (rw [hji54] at H; exact H) | (simp only [hji54] at H ⊢; exact H)
                                  have hji54w : (IntKind.i64.wrap (x12_5 + 1)) = ji54 := (i64_w _).trans hji54
                                  by_cases c55 : 0 ≤ (ji54)
                                  ·
                                   rw [if_pos c55] at H
                                   have c55b0 := decide_eq_true c55
                                   clear c55
                                   by_cases c56 : (ji54) < (x10q0.size : Int)
                                   ·
                                    rw [if_pos c56] at H
                                    have c56b0 := decide_eq_true c56
                                    (try (have c56e0 := c56b0; simp only [ByteArray.size_extract, Nat.min_self, Nat.sub_zero] at c56e0))
                                    (try (have c56g0 := c56b0; simp only [ByteArray.size_extract, Nat.sub_zero, Nat.min_eq_left (show (x7_1 : Int).toNat ≤ t143.size from by have h_ : (x7_1 : Int) ≤ (t143.size : Int) := dt_; omega)] at c56g0))
                                    clear c56
                                    by_cases c58 : (bt x10q0 (ji54)) = 32
                                    ·
                                     rw [if_pos c58] at H
                                     exact absurd H (by simp)
                                    ·
                                     rw [if_neg c58] at H
                                     have c58b0 := beq_eq_false_iff_ne.mpr c58
                                     have c58b1 := bne_iff_ne.mpr c58
                                     (try (have c58e0 := c58b0; simp only [ByteArray.size_extract, Nat.min_self, Nat.sub_zero] at c58e0))
                                     (try (have c58e1 := c58b1; simp only [ByteArray.size_extract, Nat.min_self, Nat.sub_zero] at c58e1))
                                     (try (have c58g0 := c58b0; simp only [ByteArray.size_extract, Nat.sub_zero, Nat.min_eq_left (show (x7_1 : Int).toNat ≤ t143.size from by have h_ : (x7_1 : Int) ≤ (t143.size : Int) := dt_; omega)] at c58g0))
                                     (try (have c58g1 := c58b1; simp only [ByteArray.size_extract, Nat.sub_zero, Nat.min_eq_left (show (x7_1 : Int).toNat ≤ t143.size from by have h_ : (x7_1 : Int) ≤ (t143.size : Int) := dt_; omega)] at c58g1))
                                     have H' := Aside0.mk H
                                     clear H
                                     have p37 : 0 ≤ (x12_5 : Int) := dt_
                                     have q37 : x12_5 < (x10q0.size : Int) := dt_
                                     have hx37 := bt_at x10q0 x12_5
                                     replace p37 := eq_true p37
                                     (try (have qe37 := q37; simp only [ByteArray.size_extract, Nat.min_self, Nat.sub_zero] at qe37; replace qe37 := eq_true qe37))
                                     (try (have qc37 : (x12_5 : Int) < (x10q0.size : Int) := by omega; simp only [ByteArray.size_extract, Nat.min_self, Nat.sub_zero] at qc37; replace qc37 := eq_true qc37))
                                     replace q37 := eq_true q37
                                     have p50 : 0 ≤ (x12_5 : Int) := dt_
                                     have q50 : x12_5 < (x10q0.size : Int) := dt_
                                     have hx50 := bt_at x10q0 x12_5
                                     replace p50 := eq_true p50
                                     (try (have qe50 := q50; simp only [ByteArray.size_extract, Nat.min_self, Nat.sub_zero] at qe50; replace qe50 := eq_true qe50))
                                     (try (have qc50 : (x12_5 : Int) < (x10q0.size : Int) := by omega; simp only [ByteArray.size_extract, Nat.min_self, Nat.sub_zero] at qc50; replace qc50 := eq_true qc50))
                                     replace q50 := eq_true q50
                                     have p57 : 0 ≤ ((ji54) : Int) := dt_
                                     have q57 : (ji54) < (x10q0.size : Int) := dt_
                                     have hx57 := bt_at x10q0 (ji54)
                                     replace p57 := eq_true p57
                                     (try (have qe57 := q57; simp only [ByteArray.size_extract, Nat.min_self, Nat.sub_zero] at qe57; replace qe57 := eq_true qe57))
                                     (try (have qc57 : ((ji54) : Int) < (x10q0.size : Int) := by omega; simp only [ByteArray.size_extract, Nat.min_self, Nat.sub_zero] at qc57; replace qc57 := eq_true qc57))
                                     replace q57 := eq_true q57
                                     go_wp2
                                     go_roundg k5
                                     case measure => have := HK1.out; have := HJ21.out; have := HJ23.out; have := HK4.out; have := HK5.out; omega
                                     case rel => exact ⟨(false), (ji54), sr_, (by first | rfl | (simp; done) | (simp only [← hji54] <;> (first | rfl | simp)) | (simp [*]; done)), H', ⟨by have := HK1.out; have := HJ21.out; have := HJ23.out; have := HK4.out; have := HK5.out; omega⟩, ⟨bl_ HB.out⟩⟩
                                   ·
                                    rw [if_neg c56] at H
                                    exact absurd H (by simp)
                                  ·
                                   rw [if_neg c55] at H
                                   exact absurd H (by simp)
                               ·
                                rw [if_neg c51] at H
                                have c51b0 := beq_eq_false_iff_ne.mpr c51
                                have c51b1 := bne_iff_ne.mpr c51
                                (try (have c51e0 := c51b0; simp only [ByteArray.size_extract, Nat.min_self, Nat.sub_zero] at c51e0))
                                (try (have c51e1 := c51b1; simp only [ByteArray.size_extract, Nat.min_self, Nat.sub_zero] at c51e1))
                                (try (have c51g0 := c51b0; simp only [ByteArray.size_extract, Nat.sub_zero, Nat.min_eq_left (show (x7_1 : Int).toNat ≤ t143.size from by have h_ : (x7_1 : Int) ≤ (t143.size : Int) := dt_; omega)] at c51g0))
                                (try (have c51g1 := c51b1; simp only [ByteArray.size_extract, Nat.sub_zero, Nat.min_eq_left (show (x7_1 : Int).toNat ≤ t143.size from by have h_ : (x7_1 : Int) ≤ (t143.size : Int) := dt_; omega)] at c51g1))
                                have H' := Aside0.mk H
                                clear H
                                have p37 : 0 ≤ (x12_5 : Int) := dt_
                                have q37 : x12_5 < (x10q0.size : Int) := dt_
                                have hx37 := bt_at x10q0 x12_5
                                replace p37 := eq_true p37
                                (try (have qe37 := q37; simp only [ByteArray.size_extract, Nat.min_self, Nat.sub_zero] at qe37; replace qe37 := eq_true qe37))
                                (try (have qc37 : (x12_5 : Int) < (x10q0.size : Int) := by omega; simp only [ByteArray.size_extract, Nat.min_self, Nat.sub_zero] at qc37; replace qc37 := eq_true qc37))
                                replace q37 := eq_true q37
                                have p50 : 0 ≤ (x12_5 : Int) := dt_
                                have q50 : x12_5 < (x10q0.size : Int) := dt_
                                have hx50 := bt_at x10q0 x12_5
                                replace p50 := eq_true p50
                                (try (have qe50 := q50; simp only [ByteArray.size_extract, Nat.min_self, Nat.sub_zero] at qe50; replace qe50 := eq_true qe50))
                                (try (have qc50 : (x12_5 : Int) < (x10q0.size : Int) := by omega; simp only [ByteArray.size_extract, Nat.min_self, Nat.sub_zero] at qc50; replace qc50 := eq_true qc50))
                                replace q50 := eq_true q50
                                go_wp2
                                go_roundg k5
                                case measure => have := HK1.out; have := HJ21.out; have := HJ23.out; have := HK4.out; have := HK5.out; omega
                                case rel => exact ⟨(false), (wrap64 (x12_5 + 1)), sr_, sr_, H', ⟨by have := HK1.out; have := HJ21.out; have := HJ23.out; have := HK4.out; have := HK5.out; omega⟩, ⟨bl_ HB.out⟩⟩
                            ·
                             rw [if_neg c36] at H
                             exact absurd H (by simp)
                           ·
                            rw [if_neg c35] at H
                            have c35b0 := decide_eq_false c35
                            (try (have c35e0 := c35b0; simp only [ByteArray.size_extract, Nat.min_self, Nat.sub_zero] at c35e0))
                            (try (have c35g0 := c35b0; simp only [ByteArray.size_extract, Nat.sub_zero, Nat.min_eq_left (show (x7_1 : Int).toNat ≤ t143.size from by have h_ : (x7_1 : Int) ≤ (t143.size : Int) := dt_; omega)] at c35g0))
                            clear c35
                            obtain ⟨ji59, hji59⟩ : ∃ j_ : Int, (wrap64 ((x10q0.size : Int) - 1)) = j_ := ⟨_, rfl⟩
                            replace H : (if 0 ≤ (ji59) then (if (ji59) < (x10q0.size : Int) then (if (bt x10q0 (ji59)) = 123 then (salchowlaw11_PrinterShape.l0 k5 t143 (wrap64 (x5_21 + 1)) (wrap64 (x7_1 + 1)) (wrap64 (x7_1 + 1))) else (if (bt x10q0 (ji59)) = 59 then (salchowlaw11_PrinterShape.l0 k5 t143 x5_21 (wrap64 (x7_1 + 1)) (wrap64 (x7_1 + 1))) else (if (bt x10q0 (ji59)) = 125 then (salchowlaw11_PrinterShape.l0 k5 t143 x5_21 (wrap64 (x7_1 + 1)) (wrap64 (x7_1 + 1))) else (none)))) else (none)) else (none)) = some r := by first | (rw [hji59] at H; exact H) | (simp only [hji59] at H ⊢; exact H)
                            have hji59w : (IntKind.i64.wrap ((x10q0.size : Int) - 1)) = ji59 := (i64_w _).trans hji59
                            by_cases c60 : 0 ≤ (ji59)
                            ·
                             rw [if_pos c60] at H
                             have c60b0 := decide_eq_true c60
                             clear c60
                             by_cases c61 : (ji59) < (x10q0.size : Int)
                             ·
                              rw [if_pos c61] at H
                              have c61b0 := decide_eq_true c61
                              (try (have c61e0 := c61b0; simp only [ByteArray.size_extract, Nat.min_self, Nat.sub_zero] at c61e0))
                              (try (have c61g0 := c61b0; simp only [ByteArray.size_extract, Nat.sub_zero, Nat.min_eq_left (show (x7_1 : Int).toNat ≤ t143.size from by have h_ : (x7_1 : Int) ≤ (t143.size : Int) := dt_; omega)] at c61g0))
                              clear c61
                              by_cases c63 : (bt x10q0 (ji59)) = 123
                              ·
                               rw [if_pos c63] at H
                               have c63b0 := beq_iff_eq.mpr c63
                               have c63b1 := bne_eq_false_iff_eq.mpr c63
                               (try (have c63e0 := c63b0; simp only [ByteArray.size_extract, Nat.min_self, Nat.sub_zero] at c63e0))
                               (try (have c63e1 := c63b1; simp only [ByteArray.size_extract, Nat.min_self, Nat.sub_zero] at c63e1))
                               (try (have c63g0 := c63b0; simp only [ByteArray.size_extract, Nat.sub_zero, Nat.min_eq_left (show (x7_1 : Int).toNat ≤ t143.size from by have h_ : (x7_1 : Int) ≤ (t143.size : Int) := dt_; omega)] at c63g0))
                               (try (have c63g1 := c63b1; simp only [ByteArray.size_extract, Nat.sub_zero, Nat.min_eq_left (show (x7_1 : Int).toNat ≤ t143.size from by have h_ : (x7_1 : Int) ≤ (t143.size : Int) := dt_; omega)] at c63g1))
                               clear c63
                               have H' := Aside0.mk H
                               clear H
                               have p62 : 0 ≤ ((ji59) : Int) := dt_
                               have q62 : (ji59) < (x10q0.size : Int) := dt_
                               have hx62 := bt_at x10q0 (ji59)
                               replace p62 := eq_true p62
                               (try (have qe62 := q62; simp only [ByteArray.size_extract, Nat.min_self, Nat.sub_zero] at qe62; replace qe62 := eq_true qe62))
                               (try (have qc62 : ((ji59) : Int) < (x10q0.size : Int) := by omega; simp only [ByteArray.size_extract, Nat.min_self, Nat.sub_zero] at qc62; replace qc62 := eq_true qc62))
                               replace q62 := eq_true q62
                               go_wp2
                               go_roundg k5
                               case measure => have := HK1.out; have := HJ21.out; have := HJ23.out; have := HK4.out; have := HK5.out; omega
                               case rel => exact ⟨(wrap64 (x5_21 + 1)), ((wrap64 (x7_1 + 1))), (wrap64 (x7_1 + 1)), sr_, sr_, sr_, H', ⟨by have := HK1.out; have := HJ21.out; have := HJ23.out; have := HK4.out; have := HK5.out; omega⟩, ⟨bl_ HB.out⟩⟩
                              ·
                               rw [if_neg c63] at H
                               have c63b0 := beq_eq_false_iff_ne.mpr c63
                               have c63b1 := bne_iff_ne.mpr c63
                               (try (have c63e0 := c63b0; simp only [ByteArray.size_extract, Nat.min_self, Nat.sub_zero] at c63e0))
                               (try (have c63e1 := c63b1; simp only [ByteArray.size_extract, Nat.min_self, Nat.sub_zero] at c63e1))
                               (try (have c63g0 := c63b0; simp only [ByteArray.size_extract, Nat.sub_zero, Nat.min_eq_left (show (x7_1 : Int).toNat ≤ t143.size from by have h_ : (x7_1 : Int) ≤ (t143.size : Int) := dt_; omega)] at c63g0))
                               (try (have c63g1 := c63b1; simp only [ByteArray.size_extract, Nat.sub_zero, Nat.min_eq_left (show (x7_1 : Int).toNat ≤ t143.size from by have h_ : (x7_1 : Int) ≤ (t143.size : Int) := dt_; omega)] at c63g1))
                               by_cases c64 : (bt x10q0 (ji59)) = 59
                               ·
                                rw [if_pos c64] at H
                                have c64b0 := beq_iff_eq.mpr c64
                                have c64b1 := bne_eq_false_iff_eq.mpr c64
                                (try (have c64e0 := c64b0; simp only [ByteArray.size_extract, Nat.min_self, Nat.sub_zero] at c64e0))
                                (try (have c64e1 := c64b1; simp only [ByteArray.size_extract, Nat.min_self, Nat.sub_zero] at c64e1))
                                (try (have c64g0 := c64b0; simp only [ByteArray.size_extract, Nat.sub_zero, Nat.min_eq_left (show (x7_1 : Int).toNat ≤ t143.size from by have h_ : (x7_1 : Int) ≤ (t143.size : Int) := dt_; omega)] at c64g0))
                                (try (have c64g1 := c64b1; simp only [ByteArray.size_extract, Nat.sub_zero, Nat.min_eq_left (show (x7_1 : Int).toNat ≤ t143.size from by have h_ : (x7_1 : Int) ≤ (t143.size : Int) := dt_; omega)] at c64g1))
                                clear c64
                                have H' := Aside0.mk H
                                clear H
                                have p62 : 0 ≤ ((ji59) : Int) := dt_
                                have q62 : (ji59) < (x10q0.size : Int) := dt_
                                have hx62 := bt_at x10q0 (ji59)
                                replace p62 := eq_true p62
                                (try (have qe62 := q62; simp only [ByteArray.size_extract, Nat.min_self, Nat.sub_zero] at qe62; replace qe62 := eq_true qe62))
                                (try (have qc62 : ((ji59) : Int) < (x10q0.size : Int) := by omega; simp only [ByteArray.size_extract, Nat.min_self, Nat.sub_zero] at qc62; replace qc62 := eq_true qc62))
                                replace q62 := eq_true q62
                                go_wp2
                                go_roundg k5
                                case measure => have := HK1.out; have := HJ21.out; have := HJ23.out; have := HK4.out; have := HK5.out; omega
                                case rel => exact ⟨(x5_21), ((wrap64 (x7_1 + 1))), (wrap64 (x7_1 + 1)), sr_, sr_, sr_, H', ⟨by have := HK1.out; have := HJ21.out; have := HJ23.out; have := HK4.out; have := HK5.out; omega⟩, ⟨bl_ HB.out⟩⟩
                               ·
                                rw [if_neg c64] at H
                                have c64b0 := beq_eq_false_iff_ne.mpr c64
                                have c64b1 := bne_iff_ne.mpr c64
                                (try (have c64e0 := c64b0; simp only [ByteArray.size_extract, Nat.min_self, Nat.sub_zero] at c64e0))
                                (try (have c64e1 := c64b1; simp only [ByteArray.size_extract, Nat.min_self, Nat.sub_zero] at c64e1))
                                (try (have c64g0 := c64b0; simp only [ByteArray.size_extract, Nat.sub_zero, Nat.min_eq_left (show (x7_1 : Int).toNat ≤ t143.size from by have h_ : (x7_1 : Int) ≤ (t143.size : Int) := dt_; omega)] at c64g0))
                                (try (have c64g1 := c64b1; simp only [ByteArray.size_extract, Nat.sub_zero, Nat.min_eq_left (show (x7_1 : Int).toNat ≤ t143.size from by have h_ : (x7_1 : Int) ≤ (t143.size : Int) := dt_; omega)] at c64g1))
                                by_cases c65 : (bt x10q0 (ji59)) = 125
                                ·
                                 rw [if_pos c65] at H
                                 have c65b0 := beq_iff_eq.mpr c65
                                 have c65b1 := bne_eq_false_iff_eq.mpr c65
                                 (try (have c65e0 := c65b0; simp only [ByteArray.size_extract, Nat.min_self, Nat.sub_zero] at c65e0))
                                 (try (have c65e1 := c65b1; simp only [ByteArray.size_extract, Nat.min_self, Nat.sub_zero] at c65e1))
                                 (try (have c65g0 := c65b0; simp only [ByteArray.size_extract, Nat.sub_zero, Nat.min_eq_left (show (x7_1 : Int).toNat ≤ t143.size from by have h_ : (x7_1 : Int) ≤ (t143.size : Int) := dt_; omega)] at c65g0))
                                 (try (have c65g1 := c65b1; simp only [ByteArray.size_extract, Nat.sub_zero, Nat.min_eq_left (show (x7_1 : Int).toNat ≤ t143.size from by have h_ : (x7_1 : Int) ≤ (t143.size : Int) := dt_; omega)] at c65g1))
                                 clear c65
                                 have H' := Aside0.mk H
                                 clear H
                                 have p62 : 0 ≤ ((ji59) : Int) := dt_
                                 have q62 : (ji59) < (x10q0.size : Int) := dt_
                                 have hx62 := bt_at x10q0 (ji59)
                                 replace p62 := eq_true p62
                                 (try (have qe62 := q62; simp only [ByteArray.size_extract, Nat.min_self, Nat.sub_zero] at qe62; replace qe62 := eq_true qe62))
                                 (try (have qc62 : ((ji59) : Int) < (x10q0.size : Int) := by omega; simp only [ByteArray.size_extract, Nat.min_self, Nat.sub_zero] at qc62; replace qc62 := eq_true qc62))
                                 replace q62 := eq_true q62
                                 go_wp2
                                 go_roundg k5
                                 case measure => have := HK1.out; have := HJ21.out; have := HJ23.out; have := HK4.out; have := HK5.out; omega
                                 case rel => exact ⟨(x5_21), ((wrap64 (x7_1 + 1))), (wrap64 (x7_1 + 1)), sr_, sr_, sr_, H', ⟨by have := HK1.out; have := HJ21.out; have := HJ23.out; have := HK4.out; have := HK5.out; omega⟩, ⟨bl_ HB.out⟩⟩
                                ·
                                 rw [if_neg c65] at H
                                 exact absurd H (by simp)
                             ·
                              rw [if_neg c61] at H
                              exact absurd H (by simp)
                            ·
                             rw [if_neg c60] at H
                             exact absurd H (by simp)
                        ·
                         rw [if_neg c34] at H
                         exact absurd H (by simp)
                       ·
                        rw [if_neg c33] at H
                        exact absurd H (by simp)
              ·
               rw [if_neg c20] at H
               exact absurd H (by simp)
             ·
              rw [if_neg c19] at H
              exact absurd H (by simp)
           ·
            rw [if_neg c16] at H
            exact absurd H (by simp)
          ·
           rw [if_neg c15] at H
           exact absurd H (by simp)
         ·
          rw [if_neg c14] at H
          exact absurd H (by simp)
        ·
         rw [if_neg c13] at H
         have c13b0 := beq_eq_false_iff_ne.mpr c13
         have c13b1 := bne_iff_ne.mpr c13
         have H' := Aside0.mk H
         clear H
         have p12 : 0 ≤ (x7_1 : Int) := dt_
         have q12 : x7_1 < (t143.size : Int) := dt_
         have hx12 := bt_at t143 x7_1
         replace p12 := eq_true p12
         replace q12 := eq_true q12
         go_wp2
         go_roundg k1
         case measure => have := HK1.out; omega
         case rel => exact ⟨(x5_1), (x6_1), (wrap64 (x7_1 + 1)), sr_, sr_, sr_, H', ⟨by have := HK1.out; omega⟩, ⟨bl_ HB.out⟩⟩
       ·
        rw [if_neg c11] at H
        exact absurd H (by simp)
      ·
       rw [if_neg c10] at H
       have c10b0 := decide_eq_false c10
       clear c10
       by_cases c66 : x5_1 = 0
       ·
        rw [if_pos c66] at H
        have c66b0 := beq_iff_eq.mpr c66
        have c66b1 := bne_eq_false_iff_eq.mpr c66
        clear c66
        obtain rfl := Option.some.inj H
        go_wp2
        go_ret
        exact ⟨er_, bl_ HB.out⟩
       ·
        rw [if_neg c66] at H
        exact absurd H (by simp)
   ·
    rw [if_neg c7] at H
    have c7b0 := beq_eq_false_iff_ne.mpr c7
    have c7b1 := bne_iff_ne.mpr c7
    obtain rfl := Option.some.inj H
    go_enter Tryd.func18, Tryd.ntmps18
    go_wp2_with (first | ((with_reducible refine gate_callee (f := 47) rfl ?_); refine goesL_ (some 13) rfl rfl Tryd.func47 (by kernel_rfl) rfl #[] rfl ga_ ?_; (with_reducible refine (salchowlaw11_awake.calls k  true _ ?side1 A2.out).mono ?_); (case side1 => exact Gl.below hG (bl_ HB.out)); rintro e w67 ⟨rfl, hb⟩; refine ⟨_, rfl, ?_⟩; refine cut1_ (below_step (bl_ HB.out) hb) ?_; clear HB; intro HB; (try clear hb); (try clear hb2); (try clear hk); (try clear hi)) | ((with_reducible refine gate_callee (f := 45) rfl ?_); refine goesL_ (some 16) rfl rfl Tryd.func45 (by kernel_rfl) rfl #[.slice A0 l0.length c0, .int .i64 300] rfl ga_ ?_; (with_reducible refine (salchowref10_Small.calls k _ _ l0 300 true _ ?side1 ?side2 A4.out).mono ?_); (case side1 => repeat (first | exact (Kd.C_below HR0.out HB.out) | (with_reducible refine Kd.C_alloc ?_ _) | (with_reducible refine Kd.C_drewN ?_ _) | (with_reducible refine Kd.C_drew ?_))); (case side2 => exact HC0.out); rintro e w' ⟨rfl, ⟨nd, rfl⟩⟩; refine ⟨_, rfl, ?_⟩) | ((with_reducible refine gate_callee (f := 48) rfl ?_); refine goesL_ (some 20) rfl rfl Tryd.func48 (by kernel_rfl) rfl #[.slice A0 l0.length c0] rfl ga_ ?_; (with_reducible refine (printer_Print.calls k _ _ l0 t143 t144 _ ?side1 ?side2 ?side3 A6.out).mono ?_); (case side1 => exact Gl.below hG (bl_ HB.out)); (case side2 => repeat (first | exact (Kd.C_below HR0.out (bl_ HB.out)) | (with_reducible refine Kd.C_alloc ?_ _) | (with_reducible refine Kd.C_drewN ?_ _) | (with_reducible refine Kd.C_drew ?_))); (case side3 => exact HC0.out); rintro e w68 ⟨rfl, hb⟩; refine ⟨_, rfl, ?_⟩; refine cut1_ (below_step (bl_ HB.out) hb) ?_; clear HB; intro HB; (try clear hb); (try clear hb2); (try clear hk); (try clear hi)))
    go_ret
    exact ⟨er_, bl_ HB.out⟩
  ·
   replace c5 := Bool.eq_false_iff.mpr c5
   subst c5
   have H1 : (some true) = some r := by rw [if_neg (show ¬ (false = true) by decide)] at H; exact H
   clear H
   have H := H1
   clear H1
   obtain rfl := Option.some.inj H
   go_enter Tryd.func18, Tryd.ntmps18
   go_wp2_with (first | ((with_reducible refine gate_callee (f := 47) rfl ?_); refine goesL_ (some 13) rfl rfl Tryd.func47 (by kernel_rfl) rfl #[] rfl ga_ ?_; (with_reducible refine (salchowlaw11_awake.calls k  true _ ?side1 A2.out).mono ?_); (case side1 => exact Gl.below hG (bl_ HB.out)); rintro e w69 ⟨rfl, hb⟩; refine ⟨_, rfl, ?_⟩; refine cut1_ (below_step (bl_ HB.out) hb) ?_; clear HB; intro HB; (try clear hb); (try clear hb2); (try clear hk); (try clear hi)) | ((with_reducible refine gate_callee (f := 45) rfl ?_); refine goesL_ (some 16) rfl rfl Tryd.func45 (by kernel_rfl) rfl #[.slice A0 l0.length c0, .int .i64 300] rfl ga_ ?_; (with_reducible refine (salchowref10_Small.calls k _ _ l0 300 false _ ?side1 ?side2 A4.out).mono ?_); (case side1 => repeat (first | exact (Kd.C_below HR0.out HB.out) | (with_reducible refine Kd.C_alloc ?_ _) | (with_reducible refine Kd.C_drewN ?_ _) | (with_reducible refine Kd.C_drew ?_))); (case side2 => exact HC0.out); rintro e w' ⟨rfl, ⟨nd, rfl⟩⟩; refine ⟨_, rfl, ?_⟩))
   go_ret
   exact ⟨er_, bl_ HB.out⟩
 ·
  replace c3 := Bool.eq_false_iff.mpr c3
  subst c3
  have H1 : (none) = some r := by rw [if_neg (show ¬ (false = true) by decide)] at H; exact H
  clear H
  have H := H1
  clear H1
  exact absurd H (by simp)
end Go.Proofs.YtkifdadhojbohaaDoor.Pr
namespace Go.Proofs.YtkifdadhojbohaaDoor.Pu
open Go.RowKit Go.Proofs.YtkifdadhojbohaaDoor Go.Proofs.YtkifdadhojbohaaDoor.Pr Go.Proofs.YtkifdadhojbohaaDoorW.PrintWords Go.Proofs.YtkifdadhojbohaaDoorW.PrintLast Go.Proofs.YtkifdadhojbohaaDoorW.PrintMore
/-- A byte stands there, and it is no blank. -/
def headN : List UInt8 → Bool
  | [] => false
  | d :: _ => d != 32
/-- Outside strings each blank stands alone and is not the last byte. -/
def okR : Bool → List UInt8 → Bool
  | _, [] => true
  | i, c :: r => ((if c = 34 then !i else i) || c != 32 || headN r) && okR (if c = 34 then !i else i) r
def plainB (c : UInt8) : Prop := c ≠ 34 ∧ c ≠ 32 ∧ c ≠ 10
theorem okR_plain : ∀ (t r : List UInt8), (∀ c ∈ t, plainB c) → okR false (t ++ r) = okR false r
  | [], r, _ => rfl
  | c :: t, r, h => by
    have h1 := h c (by simp)
    have h2 := okR_plain t r fun d hd => h d (by simp [hd])
    rw [List.cons_append, okR, if_neg h1.1, h2]
    simp [h1.2.1]
theorem okR_in : ∀ (t r : List UInt8), (∀ c ∈ t, c ≠ 34) → okR true (t ++ r) = okR true r
  | [], r, _ => rfl
  | c :: t, r, h => by
    have h1 := h c (by simp)
    have h2 := okR_in t r fun d hd => h d (by simp [hd])
    rw [List.cons_append, okR, if_neg h1, h2]
    simp
theorem okR_str (t r : List UInt8) (h : ∀ c ∈ t, c ≠ 34) : okR false (34 :: t ++ [34] ++ r) = okR false r := by
  have e : (34 :: t ++ [34] ++ r : List UInt8) = 34 :: (t ++ 34 :: r) := by simp
  rw [e, okR, if_pos rfl]
  simp only [Bool.not_false, Bool.true_or, Bool.true_and]
  rw [okR_in t _ h, okR, if_pos rfl]
  simp
theorem okR_blank (c : UInt8) (r : List UInt8) (h : c ≠ 32) : okR false (32 :: c :: r) = okR false (c :: r) := by
  rw [okR, if_neg (by decide)]
  simp [h, headN]
theorem run_plain {c : UInt8} (h : isRunB c = true) : plainB c := by
  obtain ⟨h1, _, _, h4⟩ := run_no h
  have := kind1 c.toNat
  refine ⟨?_, ?_, ?_⟩
  · intro e; subst e; exact h1 rfl
  · intro e; subst e; exact h4 rfl
  · intro e; subst e; exact h4 rfl
theorem sign_plain {c : UInt8} (h : kindOf c.toNat = 5) : plainB c := by
  refine ⟨?_, ?_, ?_⟩ <;> (intro e; subst e; exact absurd h (by decide))
/-- What a valid atom's spelling is to a line. -/
structure TokB (t : List UInt8) : Prop where
  head : ∃ c r, t = c :: r ∧ c ≠ 32
  ok : ∀ r, okR false (t ++ r) = okR false r
  no10 : (10 : UInt8) ∉ t
theorem TokB.plain {t : List UInt8} (h0 : t ≠ []) (h : ∀ c ∈ t, plainB c) : TokB t := by
  refine ⟨?_, fun r => okR_plain t r h, fun h10 => (h _ h10).2.2 rfl⟩
  cases t with
  | nil => exact absurd rfl h0
  | cons c r => exact ⟨c, r, rfl, (h c (by simp)).2.1⟩
theorem tokB_of {k n : Int} {t : List UInt8} (h : validB k t n = true) (h5 : k ≠ 5) : TokB (spellS k t n) := by
  have hne := (reads_of_valid h h5).2.1
  unfold validB at h
  by_cases hn : k ≠ 2 ∧ n ≠ 0
  · rw [if_pos hn] at h; cases h
  · rw [if_neg hn] at h
    by_cases h1 : k = 1
    · subst h1
      rw [if_pos rfl, Bool.and_eq_true] at h
      have e : spellS 1 t n = t := by simp [spellS]
      rw [e] at hne ⊢
      exact TokB.plain hne fun c hc => run_plain (List.all_eq_true.1 h.1 c hc)
    · rw [if_neg h1] at h
      by_cases h2 : k = 2
      · subst h2
        rw [if_pos rfl, Bool.and_eq_true, Bool.and_eq_true, decide_eq_true_eq, decide_eq_true_eq, beq_iff_eq] at h
        obtain ⟨⟨rfl, g0⟩, g1⟩ := h
        have e : spellS 2 [] n = numS n.toNat := by
          unfold spellS
          rw [if_neg (by decide), if_pos rfl, if_pos ⟨g0, g1⟩]
        rw [e] at hne ⊢
        exact TokB.plain hne fun c hc => run_plain (List.all_eq_true.1 (numS_run n.toNat).1 c hc)
      · rw [if_neg h2] at h
        by_cases h3 : k = 3
        · subst h3
          rw [if_pos rfl, beq_iff_eq] at h
          obtain ⟨g1, g2, g3⟩ := titleL_zero h
          have e : spellS 3 t n = 34 :: t ++ [34] := by simp [spellS]
          rw [e]
          have hin : ∀ c ∈ t, c ≠ 34 ∧ c ≠ 10 := by
            intro c hc
            have h := List.all_eq_true.1 g3 c hc
            refine ⟨?_, ?_⟩ <;> (intro e; subst e; exact absurd h (by decide))
          refine ⟨⟨34, t ++ [34], rfl, by decide⟩, fun r => okR_str t r fun c hc => (hin c hc).1, ?_⟩
          intro h10
          simp at h10
          exact (hin 10 h10).2 rfl
        · rw [if_neg h3] at h
          by_cases h4 : k = 4
          · subst h4
            rw [if_pos rfl, Bool.and_eq_true, beq_iff_eq] at h
            have e : spellS 4 t n = t := by simp [spellS]
            rw [e] at hne ⊢
            refine TokB.plain hne fun c hc => sign_plain ?_
            have := List.all_eq_true.1 h.2 c hc
            simpa using this
          · rw [if_neg h4, if_neg h5] at h; cases h
theorem tokB_atom {t : S46} (h : okA t = true) : TokB (sp t) := by
  unfold okA at h
  rw [Bool.and_eq_true] at h
  refine tokB_of h.2 ?_
  intro h5
  have h := h.1
  simp [isA, h5] at h
theorem okR_atoms : ∀ (a : List S46) (p : Option S46) (s : List UInt8), (∀ t ∈ a, okA t = true) → okR false (atomsL p a ++ s) = okR false s ∧ (10 : UInt8) ∉ atomsL p a
  | [], _, s, _ => by simp [atomsL]
  | t :: a, p, s, h => by
    obtain ⟨i1, i2⟩ := okR_atoms a (some t) s fun x hx => h x (by simp [hx])
    have hB := tokB_atom (h t (by simp))
    obtain ⟨c, r, hc, h32⟩ := hB.head
    rw [atomsL]
    refine ⟨?_, ?_⟩
    · rw [List.append_assoc, List.append_assoc]
      by_cases hg : glue p t = true
      · rw [if_pos hg, List.nil_append, hB.ok, i1]
      · rw [if_neg hg, hc, List.cons_append, List.cons_append, List.nil_append, okR_blank _ _ h32, ← List.cons_append, ← hc, hB.ok, i1]
    · intro h10
      rcases List.mem_append.1 h10 with h | h
      · by_cases hg : glue p t = true
        · rw [if_pos hg] at h; cases h
        · rw [if_neg hg] at h; simp at h
      · rcases List.mem_append.1 h with h | h
        · exact hB.no10 h
        · exact i2 h
/-- The first line of a possible entry. -/
theorem first_line (c : S41) (hw : validB 1 (lst c.f0) 0 = true) (ha : ∀ t ∈ c.f1, okA t = true) :
    okR false (firstL c) = true ∧ (10 : UInt8) ∉ firstL c ∧ (∃ x r, firstL c = x :: r ∧ x ≠ 32) ∧ (firstL c).getLast? = some (if c.f2 = true then 123 else 59) := by
  have hB := tokB_of hw (by decide)
  have e : spellS 1 (lst c.f0) 0 = lst c.f0 := by simp [spellS]
  rw [e] at hB
  obtain ⟨x, r, hx, h32⟩ := hB.head
  obtain ⟨a1, a2⟩ := okR_atoms c.f1 none (if c.f2 = true then [32, 123] else [59]) ha
  unfold firstL
  refine ⟨?_, ?_, ⟨x, _, by rw [hx, List.cons_append], h32⟩, ?_⟩
  · rw [hB.ok, a1]
    split <;> decide
  · intro h10
    rcases List.mem_append.1 h10 with h | h
    · exact hB.no10 h
    · rcases List.mem_append.1 h with h | h
      · exact a2 h
      · split at h <;> simp at h
  · rw [← List.append_assoc]
    split
    · rw [show ([32, 123] : List UInt8) = [32] ++ [123] from rfl, ← List.append_assoc, List.getLast?_append]; rfl
    · rw [List.getLast?_append]; rfl
open salchowlaw11_PrinterShape
theorem shape_l2 (s : ByteArray) (e : Int) (o x6 x7 : Int) (rest : List UInt8) (z : UInt8) (hz : rest.getLast? = some z) (hn : rest.length ≤ 70000)
    (hcase : z = 123 ∧ wrap64 (o + 1) = e ∨ z = 59 ∧ o = e ∨ z = 125 ∧ o = e)
    (H : Ev (fun k => l0 k s e x6 (wrap64 (x7 + 1))) true) : ∀ (l : List UInt8) (j : Nat) (ins : Bool), j ≤ rest.length → rest.drop j = l → okR ins l = true → (j = 0 → l.head? ≠ some 32) →
      Ev (fun k => l2 k s o x6 x7 (str rest) ins j) true := by
  intro l
  have hsz : (str rest).size = rest.length := size_str rest
  have hne : rest ≠ [] := by rintro rfl; cases hz
  have hpos : 0 < rest.length := List.length_pos_iff.2 hne
  induction l with
  | nil =>
    intro j ins hj hd _ _
    have hj2 : j = rest.length := by
      have := List.drop_eq_nil_iff.1 hd; omega
    subst hj2
    refine Ev.succ ?_
    simp only [l2]
    have hw : wrap64 (((str rest).size : Int) - 1) = ((rest.length - 1 : Nat) : Int) := by rw [hsz, wrap64_of (by omega) (by omega)]; omega
    rw [hw]
    obtain ⟨c, hc1, hc2⟩ := last_bt (s := str rest) (by omega)
    rw [lst_str, hz] at hc1
    obtain rfl := Option.some.inj hc1
    rw [hsz] at hc2
    rw [hc2]
    refine Ev.ifn (by omega) (Ev.ifp (by omega) (Ev.ifp (by omega) ?_))
    rcases hcase with ⟨rfl, he⟩ | ⟨rfl, he⟩ | ⟨rfl, he⟩
    · refine Ev.ifp (by decide) ?_
      rw [he]; exact H
    · refine Ev.ifn (by decide) (Ev.ifp (by decide) ?_)
      rw [he]; exact H
    · refine Ev.ifn (by decide) (Ev.ifn (by decide) (Ev.ifp (by decide) ?_))
      rw [he]; exact H
  | cons c l ih =>
    intro j ins hj hd hok hh
    have hd0 : (lst (str rest)).drop j = c :: l := by rw [lst_str]; exact hd
    obtain ⟨h1, h2, h3⟩ := at_cons hd0
    rw [hsz] at h1
    rw [lst_str] at h3
    rw [okR, Bool.and_eq_true] at hok
    obtain ⟨k1, k2⟩ := hok
    have hw : wrap64 ((j : Int) + 1) = ((j + 1 : Nat) : Int) := by rw [wrap64_of (by omega) (by omega)]; omega
    have hlw : wrap64 (((str rest).size : Int) - 1) = ((rest.length - 1 : Nat) : Int) := by rw [hsz, wrap64_of (by omega) (by omega)]; omega
    have next := ih (j + 1) (if c = 34 then !ins else ins) (by omega) h3 k2 (fun h => by omega)
    have hc34 : ((c.toNat : Int) = 34) ↔ c = 34 := by
      constructor
      · intro h; apply UInt8.toNat_inj.1; show c.toNat = 34; omega
      · intro h; subst h; rfl
    have hc32 : ((c.toNat : Int) = 32) ↔ c = 32 := by
      constructor
      · intro h; apply UInt8.toNat_inj.1; show c.toNat = 32; omega
      · intro h; subst h; rfl
    -- the blank that stands alone
    have blank : (if c = 34 then !ins else ins) = false → c = 32 → Ev (fun k => if (j : Int) = 0 then none else (if (j : Int) = ((rest.length - 1 : Nat) : Int) then none else (if 0 ≤ ((j + 1 : Nat) : Int) then (if ((j + 1 : Nat) : Int) < ((str rest).size : Int) then (if bt (str rest) ((j + 1 : Nat) : Int) = 32 then none else l2 k s o x6 x7 (str rest) (if c = 34 then !ins else ins) ((j + 1 : Nat) : Int)) else none) else none))) true := by
      intro hi hc
      rw [hi, hc] at k1
      cases l with
      | nil => simp [headN] at k1
      | cons d l' =>
        have hdd : (lst (str rest)).drop (j + 1) = d :: l' := by rw [lst_str]; exact h3
        obtain ⟨m1, m2, _⟩ := at_cons hdd
        rw [hsz] at m1
        have hd32 : d ≠ 32 := by simpa [headN] using k1
        refine Ev.ifn ?_ (Ev.ifn (by omega) (Ev.ifp (by omega) (Ev.ifp (by rw [hsz]; omega) (Ev.ifn ?_ next))))
        · intro hj0
          refine hh (by omega) ?_
          rw [hc]; rfl
        · rw [m2]
          intro h
          apply hd32
          apply UInt8.toNat_inj.1
          show d.toNat = 32
          omega
    refine Ev.succ ?_
    simp only [l2]
    rw [h2, hw, hlw]
    refine Ev.ifp (by rw [hsz]; omega) (Ev.ifp (by omega) ?_)
    by_cases g34 : c = 34
    · refine Ev.ifp (hc34.2 g34) ?_
      rw [if_pos g34] at next blank
      have g32 : ¬ c = 32 := by rw [g34]; decide
      cases ins with
      | true => exact Ev.ifp rfl (Ev.ifn (fun h => g32 (hc32.1 h)) next)
      | false => exact Ev.ifn (by simp) next
    · refine Ev.ifn (fun h => g34 (hc34.1 h)) ?_
      rw [if_neg g34] at next blank
      cases ins with
      | true => exact Ev.ifp rfl next
      | false =>
        refine Ev.ifn (by simp) ?_
        by_cases g32 : c = 32
        · exact Ev.ifp (hc32.2 g32) (blank rfl g32)
        · exact Ev.ifn (fun h => g32 (hc32.1 h)) next
theorem shape_l1 (s : ByteArray) (o : Nat) (x6 x7 : Int) (rest : List UInt8) (ho : o ≤ 100) (hn : rest.length ≤ 70000)
    (H : Ev (fun k => l2 k s o x6 x7 (str rest) false 0) true) : ∀ (d j : Nat), j + d = 2 * o → Ev (fun k => l1 k s o x6 x7 (str (List.replicate (2 * o) 32 ++ rest)) j) true := by
  have hw2 : wrap64 (2 * (o : Int)) = ((2 * o : Nat) : Int) := by rw [wrap64_of (by omega) (by omega)]; omega
  have hsz : (str (List.replicate (2 * o) 32 ++ rest)).size = 2 * o + rest.length := by rw [size_str]; simp
  intro d
  induction d with
  | zero =>
    intro j hj
    obtain rfl : j = 2 * o := by omega
    refine Ev.succ ?_
    simp only [l1]
    rw [hw2]
    refine Ev.ifn (by omega) (Ev.ifp (by omega) (Ev.ifp (by rw [hsz]; omega) ?_))
    have e : (str (List.replicate (2 * o) 32 ++ rest)).extract (((2 * o : Nat) : Int)).toNat (str (List.replicate (2 * o) 32 ++ rest)).size = str rest := by
      apply lst_inj
      rw [lst_extract, lst_str, lst_str, hsz, Int.toNat_natCast]
      rw [List.take_of_length_le (by simp)]
      rw [List.drop_append_of_le_length (by simp)]
      simp
    rw [e]
    exact H
  | succ d ih =>
    intro j hj
    refine Ev.succ ?_
    simp only [l1]
    have hw : wrap64 ((j : Int) + 1) = ((j + 1 : Nat) : Int) := by rw [wrap64_of (by omega) (by omega)]; omega
    rw [hw2, hw]
    obtain ⟨c, hc1, hc2⟩ := bt_get (s := str (List.replicate (2 * o) 32 ++ rest)) (i := j) (by rw [hsz]; omega)
    rw [lst_str, List.getElem?_append_left (by simp; omega), List.getElem?_replicate, if_pos (by omega)] at hc1
    obtain rfl := Option.some.inj hc1
    exact Ev.ifp (by omega) (Ev.ifp (by omega) (Ev.ifp (by rw [hsz]; omega) (Ev.ifp (by rw [hc2]; rfl) (ih (j + 1) (by omega)))))
theorem shape_line (s : ByteArray) (A ln B rest : List UInt8) (d e o : Nat) (z : UInt8) (hs : lst s = A ++ (ln ++ 10 :: B)) (hz : s.size ≤ 70000) (h10 : (10 : UInt8) ∉ ln)
    (hl : ln = List.replicate (2 * d) 32 ++ rest) (hh : ∃ x r, rest = x :: r ∧ x ≠ 32) (hok : okR false rest = true) (hlast : rest.getLast? = some z)
    (hcase : z = 123 ∧ o = d ∧ e = d + 1 ∨ z = 59 ∧ o = d ∧ e = d ∨ z = 125 ∧ o = d + 1 ∧ e = d) (hd : d ≤ 90)
    (H : Ev (fun k => l0 k s e (A.length + ln.length + 1 : Nat) (A.length + ln.length + 1 : Nat)) true) : Ev (fun k => l0 k s o A.length A.length) true := by
  have hsize : s.size = A.length + ln.length + 1 + B.length := by
    rw [← lst_length, hs]; simp; omega
  obtain ⟨x, r, hx, hx32⟩ := hh
  have hrest : 0 < rest.length := by rw [hx]; simp
  have hlen : ln.length = 2 * d + rest.length := by rw [hl]; simp
  -- at the line's end
  have fin : Ev (fun k => l0 k s o A.length (A.length + ln.length : Nat)) true := by
    have hdrop : (lst s).drop (A.length + ln.length) = 10 :: B := by
      rw [hs, ← List.append_assoc, List.drop_left' (by simp)]
    obtain ⟨h1, h2, _⟩ := at_cons hdrop
    have ext : s.extract ((A.length : Int)).toNat (((A.length + ln.length : Nat) : Int)).toNat = str ln := by
      apply lst_inj
      rw [lst_extract, lst_str, Int.toNat_natCast, Int.toNat_natCast, hs, ← List.append_assoc, List.take_left' (by simp), List.drop_left' rfl]
    have hw : wrap64 (((A.length + ln.length : Nat) : Int) + 1) = ((A.length + ln.length + 1 : Nat) : Int) := by rw [wrap64_of (by omega) (by omega)]; omega
    have hlw : wrap64 (((str ln).size : Int) - 1) = ((ln.length - 1 : Nat) : Int) := by rw [size_str, wrap64_of (by omega) (by omega)]; omega
    obtain ⟨c, hc1, hc2⟩ := last_bt (s := str ln) (by rw [size_str]; omega)
    have hlz : ln.getLast? = some z := by
      rw [hl, List.getLast?_append, hlast]; rfl
    rw [lst_str, hlz] at hc1
    obtain rfl := Option.some.inj hc1
    rw [size_str] at hc2
    -- behind the test of the last byte
    have body : Ev (fun k => j1 k s (d : Int) ((A.length + ln.length + 1 : Nat) : Int) ((A.length + ln.length : Nat) : Int) (str ln)) true := by
      refine Ev.succ ?_
      simp only [j1]
      refine Ev.ifn (by omega) (Ev.succ ?_)
      simp only [j2]
      have hw2 : wrap64 (2 * (d : Int)) = ((2 * d : Nat) : Int) := by rw [wrap64_of (by omega) (by omega)]; omega
      rw [hw2, size_str]
      refine Ev.ifn (by simp; omega) ?_
      rw [hl]
      refine shape_l1 s d _ _ rest (by omega) (by omega) ?_ (2 * d) 0 (by omega)
      refine shape_l2 s e d _ _ rest z hlast (by omega) ?_ ?_ rest 0 false (by omega) rfl hok (fun _ => by rw [hx]; simpa using hx32)
      · rcases hcase with ⟨a, b, c⟩ | ⟨a, b, c⟩ | ⟨a, b, c⟩
        · exact .inl ⟨a, by rw [wrap64_of (by omega) (by omega)]; omega⟩
        · exact .inr (.inl ⟨a, by omega⟩)
        · exact .inr (.inr ⟨a, by omega⟩)
      · rw [← hl, hw]; exact H
    refine Ev.succ ?_
    simp only [l0]
    rw [ext, hw, hlw, hc2, h2]
    refine Ev.ifp (by omega) (Ev.ifp (by omega) (Ev.ifp (by rfl) (Ev.ifp (by omega) (Ev.ifp (by omega) (Ev.ifp (by omega) (Ev.ifn ?_ (Ev.ifp (by omega) (Ev.ifp (by rw [size_str]; omega) ?_))))))))
    · rw [toList_lst, lst_str]
      intro h0; rw [h0] at hlen; simp at hlen; omega
    · rcases hcase with ⟨a, b, c⟩ | ⟨a, b, c⟩ | ⟨a, b, c⟩
      · subst a; subst b; exact Ev.ifn (by decide) body
      · subst a; subst b; exact Ev.ifn (by decide) body
      · subst a; subst b
        refine Ev.ifp (by rfl) ?_
        have : wrap64 (((d + 1 : Nat) : Int) - 1) = (d : Int) := by rw [wrap64_of (by omega) (by omega)]; omega
        rw [this]; exact body
  -- up to there
  have skip : ∀ (Q P : List UInt8), P ++ Q = ln → Ev (fun k => l0 k s o A.length (A.length + P.length : Nat)) true := by
    intro Q
    induction Q with
    | nil =>
      intro P hP
      rw [List.append_nil] at hP
      rw [hP]; exact fin
    | cons q Q ih =>
      intro P hP
      have hi := ih (P ++ [q]) (by rw [List.append_assoc]; exact hP)
      have hq : q ∈ ln := by rw [← hP]; simp
      have hdrop : (lst s).drop (A.length + P.length) = q :: (Q ++ 10 :: B) := by
        rw [hs, ← hP]
        have : A ++ (P ++ q :: Q ++ 10 :: B) = (A ++ P) ++ (q :: (Q ++ 10 :: B)) := by simp
        rw [this, List.drop_left' (by simp)]
      obtain ⟨h1, h2, _⟩ := at_cons hdrop
      have hw : wrap64 (((A.length + P.length : Nat) : Int) + 1) = ((A.length + (P ++ [q]).length : Nat) : Int) := by rw [wrap64_of (by omega) (by omega)]; simp; omega
      refine Ev.succ ?_
      simp only [l0]
      rw [hw, h2]
      refine Ev.ifp (by omega) (Ev.ifp (by omega) (Ev.ifn ?_ hi))
      intro h
      apply h10
      have : q = 10 := by apply UInt8.toNat_inj.1; show q.toNat = 10; omega
      rw [← this]; exact hq
  exact skip ln [] rfl
theorem shape_src (s : ByteArray) (hz : s.size ≤ 70000) : ∀ l, formL l = true → ∀ (d : Nat) (A B : List UInt8), d + depL l ≤ 80 → lst s = A ++ (srcL (2 * d) l ++ B) →
    Ev (fun k => l0 k s d (A.length + (srcL (2 * d) l).length : Nat) (A.length + (srcL (2 * d) l).length : Nat)) true → Ev (fun k => l0 k s d A.length A.length) true := by
  refine indL ?_ ?_
  · intro _ d A B _ _ H
    simpa [srcL] using H
  · intro c l h1 h2 hf d A B hd hs H
    rw [formL] at hf
    simp only [Bool.and_eq_true] at hf
    obtain ⟨⟨⟨⟨f1, f2⟩, f3⟩, f4⟩, f5⟩ := hf
    obtain ⟨g1, g2, g3, g4⟩ := first_line c f1 (fun t ht => List.all_eq_true.1 f3 t ht)
    have no10 : (10 : UInt8) ∉ List.replicate (2 * d) 32 ++ firstL c := by
      intro h
      rcases List.mem_append.1 h with h | h
      · have := List.eq_of_mem_replicate h; cases this
      · exact g2 h
    by_cases hb : c.f2 = true
    · rw [if_pos hb] at g4
      have hdd : depL (c :: l) = max (1 + depL c.f3) (depL l) := by rw [depL, if_pos hb]
      have e0 : srcL (2 * d) (c :: l) = (List.replicate (2 * d) 32 ++ firstL c) ++ 10 :: (srcL (2 * (d + 1)) c.f3 ++ ((List.replicate (2 * d) 32 ++ [125]) ++ 10 :: srcL (2 * d) l)) := by
        rw [srcL, if_pos hb]
        simp only [List.append_assoc, List.cons_append, List.nil_append]
        rfl
      rw [e0] at hs H
      refine shape_line s A (List.replicate (2 * d) 32 ++ firstL c) (srcL (2 * (d + 1)) c.f3 ++ ((List.replicate (2 * d) 32 ++ [125]) ++ 10 :: srcL (2 * d) l) ++ B) (firstL c) d (d + 1) d 123 (by rw [hs]; simp) hz no10 rfl g3 g1 g4 (.inl ⟨rfl, rfl, rfl⟩) (by omega) ?_
      have k1 := h1 f4 (d + 1) (A ++ (List.replicate (2 * d) 32 ++ firstL c) ++ [10]) ((List.replicate (2 * d) 32 ++ [125]) ++ 10 :: srcL (2 * d) l ++ B) (by omega) (by rw [hs]; simp)
      have k2 := h2 f5 d (A ++ (List.replicate (2 * d) 32 ++ firstL c) ++ [10] ++ srcL (2 * (d + 1)) c.f3 ++ (List.replicate (2 * d) 32 ++ [125]) ++ [10]) B (by omega) (by rw [hs]; simp)
      have k3 := shape_line s (A ++ (List.replicate (2 * d) 32 ++ firstL c) ++ [10] ++ srcL (2 * (d + 1)) c.f3) (List.replicate (2 * d) 32 ++ [125]) (srcL (2 * d) l ++ B) [125] d d (d + 1) 125 (by rw [hs]; simp) hz (by
        intro h
        rcases List.mem_append.1 h with h | h
        · have := List.eq_of_mem_replicate h; cases this
        · simp at h) rfl ⟨125, [], rfl, by decide⟩ (by decide) rfl (.inr (.inr ⟨rfl, rfl, rfl⟩)) (by omega)
      have n1 : (A ++ (List.replicate (2 * d) 32 ++ firstL c) ++ [10]).length = A.length + (List.replicate (2 * d) 32 ++ firstL c).length + 1 := by simp; omega
      have n2 : (A ++ (List.replicate (2 * d) 32 ++ firstL c) ++ [10] ++ srcL (2 * (d + 1)) c.f3).length = (A ++ (List.replicate (2 * d) 32 ++ firstL c) ++ [10]).length + (srcL (2 * (d + 1)) c.f3).length := List.length_append
      have n3 : (A ++ (List.replicate (2 * d) 32 ++ firstL c) ++ [10] ++ srcL (2 * (d + 1)) c.f3 ++ (List.replicate (2 * d) 32 ++ [125]) ++ [10]).length = (A ++ (List.replicate (2 * d) 32 ++ firstL c) ++ [10] ++ srcL (2 * (d + 1)) c.f3).length + (List.replicate (2 * d) 32 ++ [125] : List UInt8).length + 1 := by simp; omega
      rw [← n2] at k1
      rw [← n1]
      refine k1 (k3 ?_)
      rw [← n3]
      refine k2 ?_
      have n4 : A.length + (List.replicate (2 * d) 32 ++ firstL c ++ 10 :: (srcL (2 * (d + 1)) c.f3 ++ (List.replicate (2 * d) 32 ++ [125] ++ 10 :: srcL (2 * d) l))).length = (A ++ (List.replicate (2 * d) 32 ++ firstL c) ++ [10] ++ srcL (2 * (d + 1)) c.f3 ++ (List.replicate (2 * d) 32 ++ [125]) ++ [10]).length + (srcL (2 * d) l).length := by simp; omega
      rw [← n4]; exact H
    · rw [if_neg hb] at g4
      have hdd : depL (c :: l) = max 0 (depL l) := by rw [depL, if_neg hb]
      have e0 : srcL (2 * d) (c :: l) = (List.replicate (2 * d) 32 ++ firstL c) ++ 10 :: srcL (2 * d) l := by
        rw [srcL, if_neg hb]
        simp
      rw [e0] at hs H
      refine shape_line s A (List.replicate (2 * d) 32 ++ firstL c) (srcL (2 * d) l ++ B) (firstL c) d d d 59 (by rw [hs]; simp) hz no10 rfl g3 g1 g4 (.inr (.inl ⟨rfl, rfl, rfl⟩)) (by omega) ?_
      have k2 := h2 f5 d (A ++ (List.replicate (2 * d) 32 ++ firstL c) ++ [10]) B (by omega) (by rw [hs]; simp)
      have n1 : (A ++ (List.replicate (2 * d) 32 ++ firstL c) ++ [10]).length = A.length + (List.replicate (2 * d) 32 ++ firstL c).length + 1 := by simp; omega
      rw [← n1]
      refine k2 ?_
      have n4 : A.length + (List.replicate (2 * d) 32 ++ firstL c ++ 10 :: srcL (2 * d) l).length = (A ++ (List.replicate (2 * d) 32 ++ firstL c) ++ [10]).length + (srcL (2 * d) l).length := by simp; omega
      rw [← n4]; exact H
theorem printerShape (l : List S41) : ∃ k, salchowlaw11_PrinterShape.f k l = some true := by
  apply Ev.rounds
  unfold salchowlaw11_PrinterShape.f
  refine Ev.bind awake11_f (Ev.ifp rfl ?_)
  obtain ⟨b, g1, g2⟩ := Small_f l 300 (by omega)
  refine Ev.bind g1 ?_
  cases b with
  | false => exact Ev.ifn (by simp) (Ev.now _)
  | true =>
    obtain ⟨hsz, hP⟩ := g2 rfl
    have hP' := txt_mono (m := 900000) (by omega) hP
    refine Ev.ifp rfl (Ev.bind (Print_f l (by omega) hP') ?_)
    unfold printA
    by_cases hc : chkL l = 0
    · rw [if_pos hc]
      by_cases h6 : 65536 < (srcL 0 l).length
      · rw [if_pos h6]
        exact Ev.ifn (by decide) (Ev.now _)
      · rw [if_neg h6]
        obtain ⟨hf, hd⟩ := chk_ok hc
        refine Ev.ifp rfl ?_
        have h := shape_src (str (srcL 0 l)) (by rw [size_str]; omega) l hf 0 [] [] (by omega) (by simp)
        refine h ?_
        refine Ev.succ ?_
        simp only [l0]
        refine Ev.ifn (by rw [size_str]; simp) (Ev.ifp rfl (Ev.ret (by rw [size_str]; simp)))
    · rw [if_neg hc]
      exact Ev.ifn hc (Ev.now _)
end Go.Proofs.YtkifdadhojbohaaDoor.Pu
namespace Go.Proofs.YtkifdadhojbohaaDoor.printerShape
open Go.Proofs.YtkifdadhojbohaaDoorW.PrintWords
open Go.ChangeShapes Go.WideShapes Go.ChangeAt Go.RowKit Rk
open Go.ChangeMaps (open_string shut_string)
theorem c09 : (Rows.printerShapeRow.inPlace == Tryd.prog.inPlace 18) = true := by kernel_rfl
theorem c10 : (Rows.printerShapeRow.unfollowed == Tryd.prog.unfollowed 18) = true := by kernel_rfl
theorem c11 : (Rows.printerShapeRow.recurses == Tryd.prog.recurses 18) = true := by kernel_rfl
theorem c12 : (Rows.printerShapeRow.named == Tryd.prog.varsNamed 18) = true := by kernel_rfl
theorem facts : joinedFacts Tryd.prog 18 Tryd.f18 Rows.printerShapeSpec Rows.printerShapeRow = true :=
  facts_of _ _ _ _ _ (by kernel_rfl) out_ rowed_ (by kernel_rfl) (by kernel_rfl) rfl (by kernel_rfl) rfl (by kernel_rfl) c09 c10 c11 c12 (by kernel_rfl) (by kernel_rfl) (by kernel_rfl) (by kernel_rfl) (by kernel_rfl)
    (by kernel_rfl) (by kernel_rfl) (by kernel_rfl) (by kernel_rfl) (by kernel_rfl) (by kernel_rfl) heard_ enter_ (by kernel_rfl) (by kernel_rfl) (by kernel_rfl) (by kernel_rfl) (by kernel_rfl) (by kernel_rfl)
theorem goes : false = Rows.printerShapeRow.goesBy Tryd.prog := by kernel_rfl
set_option maxRecDepth 100000 in
theorem lifted (os : Os) (started : os.Started) (H : Type) (enc : TypeId × Value → H) :
    ReturnsInHanded {} Tryd.checked os 18 .any (fun w args => (Rows.printerShapeSpec.pre enc Tryd.prog Tryd.f18 [] false w args ∧ laidMetH Tryd.prog laidB w) ∧ sizedMet enc Tryd.prog Tryd.f18 (OpenSpec.ofChange Rows.printerShapeSpec) false w args)
      (Rows.printerShapeSpec.post enc Tryd.prog Tryd.f18 false true false false) := by
  refine returnsInHanded_of_change_and (C := Tryd.checked) (X := fun w _ => laidMetH Tryd.prog laidB w) (fun _ _ _ hh h => h.of_heap hh) own started (by kernel_rfl) Tryd.func18
    (ChangeSpec.witness_shaped (enc := enc) (C := Tryd.checked) (os := os) (X := fun w _ => laidMetH Tryd.prog laidB w) false (wB os) #[.slice none 0 0] 8 (World.laidAll_os _ _ _)
      (World.shaped_of_ZipB (by kernel_rfl) (by kernel_rfl)) (by kernel_rfl) (by kernel_rfl) (by kernel_rfl) (met_B os _)) ?_
  intro W base args ds gs before hval0 hW _ hsz0 hL _
  have hsz : (DataW.weightsEach Tryd.prog (Tryd.f18.params.toList ++ Rows.printerShapeSpec.plain.varTypes Tryd.prog) (ds ++ gs)).all (· ≤ reachBytes) = true := hsz0
  have hval : ∀ (j : Nat) t v, Tryd.f18.params[j]? = some t → args[j]? = some v → Value.okWide Tryd.prog W .any base t v := hval0
  have hW' := hW
  obtain ⟨p, q, hA0, hV, rfl, _, _⟩ := hW
  have hA : DataW.TrodAll enc Tryd.prog W 0 (fun _ => true) true Tryd.f18.params.toList args.toList ds p := hA0
  rw [Tryd.params18] at hA hval hsz
  obtain ⟨v0, vs0, d0, ds0, p0, q0, hargs, rfl, rfl, h0, r0⟩ := trodAll_cons hA
  obtain ⟨rfl, rfl, rfl⟩ := trodAll_nil r0
  obtain rfl : args = #[v0] := by cases args; simp_all
  obtain ⟨rfl, rfl⟩ := trodVars_none hV
  obtain ⟨a0, len0, cap0, rfl⟩ := okWide_slice Tryd.underlying23 (hval 0 23 v0 rfl rfl)
  have k0 := h0
  have lt0 : ∀ x ∈ p0, x.block < W.heap.size := by obtain ⟨m, hm⟩ := k0; exact DataW.trod_lt m _ _ _ hm
  obtain ⟨A0, T0, c0, e0, l0, g0⟩ : ∃ A T c, Value.slice a0 len0 cap0 = .slice A T.length c ∧ T.length ≤ c ∧ Kd.C Pr.k41 W A T.length T := by
    obtain ⟨fuel, hf⟩ := h0
    exact open_clauses (fuel := fuel) (by simpa [Value.cells] using hf)
  rw [e0] at k0 hW' ⊢
  clear hA0 hval0 hsz0 hsz
  obtain ⟨k, hk⟩ := Pu.printerShape T0
  refine (Pr.salchowlaw11_PrinterShape.calls k A0 c0 T0 true W (gl_B hL) g0 l0 hk).mono fun e W' ⟨he, bel⟩ => ?_
  subst he
  exact ⟨_, rfl, _, _, _, [], _, [], hW', trodAll_mk1 (shut_bool Tryd.underlying4 _), (trodAll_cons_mk (Below.trod out_ (by kernel_rfl) (of_decide_eq_true (by kernel_rfl)) k0 bel lt0) trodAll_mk0), rfl, bel.frame _, fun h => by cases h⟩
theorem over : Rows.printerShapeRow.holds Tryd.pinned (OpenSpec.ofChange Rows.printerShapeSpec) :=
  OpenClaim.holds_of_wide 18 Tryd.f18 rfl rfl rfl rfl rfl rfl rfl ⟨rfl, rfl, rfl, rfl, rfl⟩ rfl rfl rfl rfl rfl (by kernel_rfl) Tryd.func18 facts
    (of_decide_eq_true (by kernel_rfl)) (by unfold Func.isWrapper; first | (rw [if_pos (by decide +kernel)]; kernel_rfl) | (rw [if_neg (by decide +kernel)]; exact ⟨rfl, rfl⟩))
    (fun os started H enc _ => lifted os started H enc)
theorem card : Rows.PrinterShapeCardSaid :=
  Claim7.holds_tied_plain_at .later [] [.data, .data, .data, .data, .sentinel, .sentinel, .pinned] true (true, "74d2011260c70b611c86c4d3b7f5d11cc5fefff18c715f175ff3522b41f9dd0c") true
    over (fun _ h => by cases h) (by kernel_rfl) (fun _ h => by cases h) printerShape_row_tie rfl ⟨rfl, rfl⟩ mainIs_ rfl
    (fun f fn hf hfn => by
      obtain rfl : f = 18 := Option.some.inj ((show Tryd.prog.funcNamed "salchow/salchowlaw11.PrinterShape" = some 18 by kernel_rfl).symm.trans hf) |>.symm
      obtain rfl : fn = Tryd.f18 := (Option.some.inj (Tryd.func18.symm.trans hfn)).symm
      exact ⟨looks_, fun j t ht => by
        rw [Tryd.params18] at ht
        have hm : t ∈ [23] := by simpa using Array.mem_of_getElem? ht
        have hall : ([23].all fun u => !Tryd.prog.wantsStandIn u) = true := by kernel_rfl
        exact (show Tryd.prog.wantsStandIn t = false by simpa using List.all_eq_true.1 hall t hm)⟩)
    goes
#print axioms card
end Go.Proofs.YtkifdadhojbohaaDoor.printerShape
