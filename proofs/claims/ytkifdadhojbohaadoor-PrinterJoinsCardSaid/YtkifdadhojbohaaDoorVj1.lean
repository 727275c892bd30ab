/- Joined out of the texts of this proof that bear the names PrF17 PyJ RowPrinterJoins: what each shows stands over it there. -/
import Derived.Test.YtkifdadhojbohaaDoorVk1
import Derived.Test.YtkifdadhojbohaaDoorVv1
import Derived.Test.YtkifdadhojbohaaDoorVo1
import Derived.Test.YtkifdadhojbohaaDoorVp1
import Derived.Test.YtkifdadhojbohaaDoorVr1
import Derived.Test.YtkifdadhojbohaaDoorCards
import Derived.Test.YtkifdadhojbohaaDoorTie
import Derived.WalkKit
import Derived.OpenShut
import Derived.ShutString
import Derived.ChangeOld
import Derived.SizedLaws
import Derived.SevenTiedAt
import Derived.Handed
import Derived.LaidLaws
import Derived.Lib.SmallJoins
import Derived.Carry
set_option linter.unusedVariables false
set_option linter.unusedSimpArgs false
namespace Go.Proofs.YtkifdadhojbohaaDoor.Pr
open Go.Proofs.YtkifdadhojbohaaDoor
open Go.RowKit Go.Proofs.YtkifdadhojbohaaDoorW.PrintWords Go.Proofs.YtkifdadhojbohaaDoorW.PrintLast Go.Proofs.YtkifdadhojbohaaDoorW.PrintMore
attribute [local go_sem] max2_int min2_int max_two min_two max_three min_three max_four min_four   -- for this text's walks alone
set_option linter.unusedVariables false
set_option linter.unusedSimpArgs false
def salchowlaw11_PrinterJoins.j0 : Nat → List (S41) → List (S41) → Bool → Option (Bool)
 | 0, _, _, _ => none
 | k + 1, x0, x1, x20 => if x20 = true then (some true) else ((printer_Print.f k x0).bind fun bt126 => ((printer_Print.f k x1).bind fun bt128 => ((some (([] : List (S41)) : List (S41))).bind fun y130 => (if y130.length + x0.length < 1759218604441 then ((some (y130 ++ x0 : List (S41))).bind fun y133 => (if y133.length + x1.length < 1759218604441 then ((printer_Print.f k (y133 ++ x1)).bind fun bt139 => (if bt126.2 = 0 then (if bt128.2 = 0 then (if bt139.2 = 0 then (if bt126.1.size + bt128.1.size ≤ 9223372036854775807 then (if bt139.1.toList = (bt126.1 ++ bt128.1).toList then (some true) else (if bt139.2 = 6 then (some (decide ((wrap64 ((bt126.1.size : Int) + (bt128.1.size : Int))) > 65536))) else (none))) else (none)) else (if bt139.2 = 6 then (some (decide ((wrap64 ((bt126.1.size : Int) + (bt128.1.size : Int))) > 65536))) else (none))) else (some (bt139.2 != 0))) else (some (bt139.2 != 0)))) else (none))) else (none)))))
def salchowlaw11_PrinterJoins.f (k : Nat) (l0 : List (S41)) (l1 : List (S41)) : Option (Bool) := (salchowlaw11_awake.f k).bind fun t123 => (if t123 = true then ((salchowref10_Small.f k l0 300).bind fun t124 => (if t124 = true then ((salchowref10_Small.f k l1 300).bind fun t125 => (salchowlaw11_PrinterJoins.j0 k l0 l1 (!t125))) else (salchowlaw11_PrinterJoins.j0 k l0 l1 true))) else (none))
theorem salchowlaw11_PrinterJoins.mono_l : ∀ k, (∀ y0 y1 y2, LeO (salchowlaw11_PrinterJoins.j0 k y0 y1 y2) (salchowlaw11_PrinterJoins.j0 (k + 1) y0 y1 y2))
 | 0 => fun _ _ _ r h => by simp [salchowlaw11_PrinterJoins.j0] at h
 | k + 1 => by
  have ih0 := salchowlaw11_PrinterJoins.mono_l k
  ·
   intro y0 y1 y2
   unfold salchowlaw11_PrinterJoins.j0
   repeat' first
   | (with_reducible exact ih0 _ _ _)
   | (with_reducible exact printer_Print.mono _ _)
   | (with_reducible exact salchowlaw11_awake.mono _)
   | (with_reducible exact salchowref10_Small.mono _ _ _)
   | (with_reducible exact LeO.refl _)
   | (with_reducible exact LeO.none _)
   | (with_reducible refine LeO.ite ?_ ?_)
   | (with_reducible refine LeO.bind ?_ (fun _ => ?_))
   | exact ih0 _ _ _
   | exact printer_Print.mono _ _
   | exact salchowlaw11_awake.mono _
   | exact salchowref10_Small.mono _ _ _
   | exact LeO.none _
   | refine LeO.ite ?_ ?_
   | refine LeO.bind ?_ (fun _ => ?_)
theorem salchowlaw11_PrinterJoins.mono : ∀ a0 a1 k, LeO (salchowlaw11_PrinterJoins.f k a0 a1) (salchowlaw11_PrinterJoins.f (k + 1) a0 a1) := by
 intro a0 a1 k
 have ih0 := salchowlaw11_PrinterJoins.mono_l k
 unfold salchowlaw11_PrinterJoins.f
 repeat' first
   | (with_reducible exact ih0 _ _ _)
   | (with_reducible exact printer_Print.mono _ _)
   | (with_reducible exact salchowlaw11_awake.mono _)
   | (with_reducible exact salchowref10_Small.mono _ _ _)
   | (with_reducible exact LeO.refl _)
   | (with_reducible exact LeO.none _)
   | (with_reducible refine LeO.ite ?_ ?_)
   | (with_reducible refine LeO.bind ?_ (fun _ => ?_))
   | exact ih0 _ _ _
   | exact printer_Print.mono _ _
   | exact salchowlaw11_awake.mono _
   | exact salchowref10_Small.mono _ _ _
   | exact LeO.none _
   | refine LeO.ite ?_ ?_
   | refine LeO.bind ?_ (fun _ => ?_)
set_option maxHeartbeats 8000000 in
set_option maxRecDepth 100000 in
theorem salchowlaw11_PrinterJoins.calls (k : Nat) (P0_ : Nat → Prop) (A0 : Option Addr) (c0 : Nat) (l0 : List (S41)) (P1_ : Nat → Prop) (A1 : Option Addr) (c1 : Nat) (l1 : List (S41)) (r : Bool) (w : World) (hG : Gl w) (hs0 : Kd.V k41 41 w w.heap.size (fun k_ => P0_ k_) (.slice A0 l0.length c0) l0) (hs1 : Kd.V k41 41 w w.heap.size (fun k_ => P1_ k_) (.slice A1 l1.length c1) l1) (h : salchowlaw11_PrinterJoins.f k l0 l1 = some r) :
  Calls Tryd.prog 17 #[.slice A0 l0.length c0, .slice A1 l1.length c1] w fun e w' => e = .returned (.bool r) ∧ Below w.heap.size w w' := by
 have HO0 := Aside0.mk (show Kd.V k41 41 w w.heap.size (fun k_ => ((P0_ k_ ∨ P1_ k_) ∨ w.heap.size ≤ k_)) (.slice A0 l0.length c0) l0 from Kd.V_mono hs0 (fun k_ hk => .inl (.inl hk)))
 have HO1 := Aside0.mk (show Kd.V k41 41 w w.heap.size (fun k_ => ((P0_ k_ ∨ P1_ k_) ∨ w.heap.size ≤ k_)) (.slice A1 l1.length c1) l1 from Kd.V_mono hs1 (fun k_ hk => .inl (.inr hk)))
 have HB := Aside0.mk (Below.refl w.heap.size w)
 have H : ((salchowlaw11_awake.f k).bind fun t123 => (if t123 = true then ((salchowref10_Small.f k l0 300).bind fun t124 => (if t124 = true then ((salchowref10_Small.f k l1 300).bind fun t125 => (salchowlaw11_PrinterJoins.j0 k l0 l1 (!t125))) else (salchowlaw11_PrinterJoins.j0 k l0 l1 true))) else (none))) = some r := h
 clear h
 replace H := Option.bind_eq_some_iff.mp H
 obtain ⟨t123, A30, H⟩ := H
 (try dsimp only at H)
 have A3 := Aside0.mk A30
 clear A30
 by_cases c4 : t123 = true
 ·
  subst c4
  have H1 : ((salchowref10_Small.f k l0 300).bind fun t124 => (if t124 = true then ((salchowref10_Small.f k l1 300).bind fun t125 => (salchowlaw11_PrinterJoins.j0 k l0 l1 (!t125))) else (salchowlaw11_PrinterJoins.j0 k l0 l1 true))) = some r := by rw [if_pos rfl] at H; exact H
  clear H
  have H := H1
  clear H1
  have HC5 := Aside0.mk H
  clear H
  go_enter Tryd.func17, Tryd.ntmps17
  go_upto_region 3 with (first | ((with_reducible refine gate_callee (f := 47) rfl ?_); refine goesL_ (some 11) rfl rfl Tryd.func47 (by kernel_rfl) rfl #[] rfl ga_ ?_; (with_reducible refine (salchowlaw11_awake.calls k  true _ ?side1 A3.out).mono ?_); (case side1 => exact Gl.below hG (bl_ HB.out)); rintro e w6 ⟨rfl, hb⟩; refine ⟨_, rfl, ?_⟩; have n0_ := Aside0.mk (Kd.V_below (rV_ HO0.out) hb); have n1_ := Aside0.mk (Kd.V_below (rV_ HO1.out) hb); have n2_ := Aside0.mk (below_step (bl_ HB.out) hb); clear HO0; clear HO1; clear HB; have HO0 := n0_; have HO1 := n1_; have HB := n2_; clear n0_ n1_ n2_; (try clear hb); (try clear hb2); (try clear hk); (try clear hi)))
  (try simp only [Act.put, List.setIfInBounds_toArray, List.set_cons_zero, List.set_cons_succ])
  go_cut [20] (fun v20 wc => ∃ (kq : Nat) (x20_4 : Bool), v20 = .bool x20_4 ∧ Aside0 (salchowlaw11_PrinterJoins.j0 kq l0 l1 x20_4 = some r) ∧ Aside0 (kq ≤ k) ∧ Aside0 (Kd.V k41 41 wc w.heap.size (fun k_ => ((P0_ k_ ∨ P1_ k_) ∨ w.heap.size ≤ k_)) (.slice A0 l0.length c0) l0) ∧ Aside0 (Kd.V k41 41 wc w.heap.size (fun k_ => ((P0_ k_ ∨ P1_ k_) ∨ w.heap.size ≤ k_)) (.slice A1 l1.length c1) l1) ∧ Aside0 (Below w.heap.size w wc))
  case first =>
   have H := HC5.out
   clear HC5
   replace H := Option.bind_eq_some_iff.mp H
   obtain ⟨t124, A70, H⟩ := H
   (try dsimp only at H)
   have A7 := Aside0.mk A70
   clear A70
   by_cases c8 : t124 = true
   ·
    subst c8
    have H1 : ((salchowref10_Small.f k l1 300).bind fun t125 => (salchowlaw11_PrinterJoins.j0 k l0 l1 (!t125))) = some r := by rw [if_pos rfl] at H; exact H
    clear H
    have H := H1
    clear H1
    replace H := Option.bind_eq_some_iff.mp H
    obtain ⟨t125, A90, H⟩ := H
    (try dsimp only at H)
    have A9 := Aside0.mk A90
    clear A90
    have H' := Aside0.mk H
    clear H
    go_wp2_with (first | ((with_reducible refine gate_callee (f := 45) rfl ?_); refine goesL_ (some 14) rfl rfl Tryd.func45 (by kernel_rfl) rfl #[.slice A0 l0.length c0, .int .i64 300] rfl ga_ ?_; (with_reducible refine (salchowref10_Small.calls k _ _ l0 300 true _ ?side1 ?side2 A7.out).mono ?_); (case side1 => repeat (first | exact (Kd.V_reads' HO0.out).2.2 | (with_reducible refine Kd.C_alloc ?_ _) | (with_reducible refine Kd.C_drewN ?_ _) | (with_reducible refine Kd.C_drew ?_))); (case side2 => exact (Kd.V_reads' HO0.out).2.1); rintro e w' ⟨rfl, ⟨nd, rfl⟩⟩; refine ⟨_, rfl, ?_⟩) | (go_at_call 45; (with_reducible refine (salchowref10_Small.calls k _ _ l1 300 t125 _ ?side1 ?side2 A9.out).mono ?_); (case side1 => repeat (first | exact (Kd.V_reads' HO1.out).2.2 | (with_reducible refine Kd.C_alloc ?_ _) | (with_reducible refine Kd.C_drewN ?_ _) | (with_reducible refine Kd.C_drew ?_))); (case side2 => exact (Kd.V_reads' HO1.out).2.1); rintro e w' ⟨rfl, ⟨nd, rfl⟩⟩))
    go_meet
    case rel => exact ⟨_, (!t125), sr_, H', ⟨by first | omega | exact Nat.le_refl _⟩, ⟨by (with_reducible repeat (first | apply Kd.V_alloc | apply Kd.V_drewN | apply Kd.V_drew)); exact HO0.out⟩, ⟨by (with_reducible repeat (first | apply Kd.V_alloc | apply Kd.V_drewN | apply Kd.V_drew)); exact HO1.out⟩, ⟨bl_ HB.out⟩⟩
   ·
    replace c8 := Bool.eq_false_iff.mpr c8
    subst c8
    have H1 : (salchowlaw11_PrinterJoins.j0 k l0 l1 true) = some r := by rw [if_neg (show ¬ (false = true) by decide)] at H; exact H
    clear H
    have H := H1
    clear H1
    have H' := Aside0.mk H
    clear H
    go_wp2_with (first | ((with_reducible refine gate_callee (f := 45) rfl ?_); refine goesL_ (some 14) rfl rfl Tryd.func45 (by kernel_rfl) rfl #[.slice A0 l0.length c0, .int .i64 300] rfl ga_ ?_; (with_reducible refine (salchowref10_Small.calls k _ _ l0 300 false _ ?side1 ?side2 A7.out).mono ?_); (case side1 => repeat (first | exact (Kd.V_reads' HO0.out).2.2 | (with_reducible refine Kd.C_alloc ?_ _) | (with_reducible refine Kd.C_drewN ?_ _) | (with_reducible refine Kd.C_drew ?_))); (case side2 => exact (Kd.V_reads' HO0.out).2.1); rintro e w' ⟨rfl, ⟨nd, rfl⟩⟩; refine ⟨_, rfl, ?_⟩))
    go_meet
    case rel => exact ⟨_, (true), sr_, H', ⟨by first | omega | exact Nat.le_refl _⟩, ⟨by (with_reducible repeat (first | apply Kd.V_alloc | apply Kd.V_drewN | apply Kd.V_drew)); exact HO0.out⟩, ⟨by (with_reducible repeat (first | apply Kd.V_alloc | apply Kd.V_drewN | apply Kd.V_drew)); exact HO1.out⟩, ⟨bl_ HB.out⟩⟩
  case rest =>
   clear HC5
   try clear c1
   try clear p2
   try clear c4
   try clear c8
   obtain ⟨kq, x20_4, rfl, HA, HJ4, HO_0, HO_1, HB⟩ := hcut
   cases kq with
   | zero => exact absurd HA.out (by simp [salchowlaw11_PrinterJoins.j0])
   | succ kj4 =>
    have H := HA.out
    clear HA
    simp only [salchowlaw11_PrinterJoins.j0] at H
    by_cases c10 : x20_4 = true
    ·
     subst c10
     have H1 : (some true) = some r := by rw [if_pos rfl] at H; exact H
     clear H
     have H := H1
     clear H1
     obtain rfl := Option.some.inj H
     go_wp2
     go_ret
     exact ⟨er_, bl_ HB.out⟩
    ·
     replace c10 := Bool.eq_false_iff.mpr c10
     subst c10
     have H1 : ((printer_Print.f kj4 l0).bind fun bt126 => ((printer_Print.f kj4 l1).bind fun bt128 => ((some (([] : List (S41)) : List (S41))).bind fun y130 => (if y130.length + l0.length < 1759218604441 then ((some (y130 ++ l0 : List (S41))).bind fun y133 => (if y133.length + l1.length < 1759218604441 then ((printer_Print.f kj4 (y133 ++ l1)).bind fun bt139 => (if bt126.2 = 0 then (if bt128.2 = 0 then (if bt139.2 = 0 then (if bt126.1.size + bt128.1.size ≤ 9223372036854775807 then (if bt139.1.toList = (bt126.1 ++ bt128.1).toList then (some true) else (if bt139.2 = 6 then (some (decide ((wrap64 ((bt126.1.size : Int) + (bt128.1.size : Int))) > 65536))) else (none))) else (none)) else (if bt139.2 = 6 then (some (decide ((wrap64 ((bt126.1.size : Int) + (bt128.1.size : Int))) > 65536))) else (none))) else (some (bt139.2 != 0))) else (some (bt139.2 != 0)))) else (none))) else (none))))) = some r := by rw [if_neg (show ¬ (false = true) by decide)] at H; exact H
     clear H
     have H := H1
     clear H1
     replace H := Option.bind_eq_some_iff.mp H
     obtain ⟨⟨t126, t127⟩, A110, H⟩ := H
     (try dsimp only at H)
     have A11 := Aside0.mk A110
     clear A110
     replace H := Option.bind_eq_some_iff.mp H
     obtain ⟨⟨t128, t129⟩, A120, H⟩ := H
     (try dsimp only at H)
     have A12 := Aside0.mk A120
     clear A120
     obtain ⟨y130, hy130⟩ : ∃ y_ : List (S41), y_ = (([] : List (S41))) := ⟨_, rfl⟩
     replace H : (if y130.length + l0.length < 1759218604441 then ((some (y130 ++ l0 : List (S41))).bind fun y133 => (if y133.length + l1.length < 1759218604441 then ((printer_Print.f kj4 (y133 ++ l1)).bind fun bt139 => (if t127 = 0 then (if t129 = 0 then (if bt139.2 = 0 then (if t126.size + t128.size ≤ 9223372036854775807 then (if bt139.1.toList = (t126 ++ t128).toList then (some true) else (if bt139.2 = 6 then (some (decide ((wrap64 ((t126.size : Int) + (t128.size : Int))) > 65536))) else (none))) else (none)) else (if bt139.2 = 6 then (some (decide ((wrap64 ((t126.size : Int) + (t128.size : Int))) > 65536))) else (none))) else (some (bt139.2 != 0))) else (some (bt139.2 != 0)))) else (none))) else (none)) = some r := by first | (rw [hy130]; with_reducible exact H) | (have H2_ := (Option.bind_some _ _).symm.trans H; rw [hy130]; with_reducible exact H2_) | (have H2_ := (Option.bind_some _ _).symm.trans H; with_reducible exact H2_) | with_reducible exact H | (rw [hy130]; exact H) | exact H
     have Ny130 := Aside0.mk hy130
     clear hy130
     by_cases c13 : y130.length + l0.length < 1759218604441
     ·
      rw [if_pos c13] at H
      have LMc13 := Aside0.mk c13
      clear c13
      obtain ⟨y133, hy133⟩ : ∃ y_ : List (S41), y_ = (y130 ++ l0) := ⟨_, rfl⟩
      replace H : (if y133.length + l1.length < 1759218604441 then ((printer_Print.f kj4 (y133 ++ l1)).bind fun bt139 => (if t127 = 0 then (if t129 = 0 then (if bt139.2 = 0 then (if t126.size + t128.size ≤ 9223372036854775807 then (if bt139.1.toList = (t126 ++ t128).toList then (some true) else (if bt139.2 = 6 then (some (decide ((wrap64 ((t126.size : Int) + (t128.size : Int))) > 65536))) else (none))) else (none)) else (if bt139.2 = 6 then (some (decide ((wrap64 ((t126.size : Int) + (t128.size : Int))) > 65536))) else (none))) else (some (bt139.2 != 0))) else (some (bt139.2 != 0)))) else (none)) = some r := by first | (rw [hy133]; with_reducible exact H) | (have H2_ := (Option.bind_some _ _).symm.trans H; rw [hy133]; with_reducible exact H2_) | (have H2_ := (Option.bind_some _ _).symm.trans H; with_reducible exact H2_) | with_reducible exact H | (rw [hy133]; exact H) | exact H
      have Ny133 := Aside0.mk hy133
      clear hy133
      by_cases c14 : y133.length + l1.length < 1759218604441
      ·
       rw [if_pos c14] at H
       have LMc14 := Aside0.mk c14
       clear c14
       obtain ⟨y136, hy136⟩ : ∃ y_ : List (S41), y_ = (y133 ++ l1) := ⟨_, rfl⟩
       replace H : ((printer_Print.f kj4 y136).bind fun bt139 => (if t127 = 0 then (if t129 = 0 then (if bt139.2 = 0 then (if t126.size + t128.size ≤ 9223372036854775807 then (if bt139.1.toList = (t126 ++ t128).toList then (some true) else (if bt139.2 = 6 then (some (decide ((wrap64 ((t126.size : Int) + (t128.size : Int))) > 65536))) else (none))) else (none)) else (if bt139.2 = 6 then (some (decide ((wrap64 ((t126.size : Int) + (t128.size : Int))) > 65536))) else (none))) else (some (bt139.2 != 0))) else (some (bt139.2 != 0)))) = some r := by first | (rw [hy136]; with_reducible exact H) | (have H2_ := (Option.bind_some _ _).symm.trans H; rw [hy136]; with_reducible exact H2_) | (have H2_ := (Option.bind_some _ _).symm.trans H; with_reducible exact H2_) | with_reducible exact H | (rw [hy136]; exact H) | exact H
       have Ny136 := Aside0.mk hy136
       clear hy136
       replace H := Option.bind_eq_some_iff.mp H
       obtain ⟨⟨t139, t140⟩, A150, H⟩ := H
       (try dsimp only at H)
       have A15 := Aside0.mk A150
       clear A150
       by_cases c16 : t127 = 0
       ·
        rw [if_pos c16] at H
        have c16b0 := beq_iff_eq.mpr c16
        have c16b1 := bne_eq_false_iff_eq.mpr c16
        clear c16
        by_cases c17 : t129 = 0
        ·
         rw [if_pos c17] at H
         have c17b0 := beq_iff_eq.mpr c17
         have c17b1 := bne_eq_false_iff_eq.mpr c17
         clear c17
         by_cases c18 : t140 = 0
         ·
          rw [if_pos c18] at H
          have c18b0 := beq_iff_eq.mpr c18
          have c18b1 := bne_eq_false_iff_eq.mpr c18
          clear c18
          by_cases c19 : t126.size + t128.size ≤ 9223372036854775807
          ·
           rw [if_pos c19] at H
           have c19b0 := eq_true c19
           have c19b1 := decide_eq_true c19
           try have c19b2 : (9223372036854775807 < t126.size + t128.size) = False := eq_false (Nat.not_lt.2 c19)
           by_cases c20 : t139.toList = (t126 ++ t128).toList
           ·
            rw [if_pos c20] at H
            have c20b0 := beq_iff_eq.mpr c20
            have c20b1 := bne_eq_false_iff_eq.mpr c20
            clear c20
            obtain rfl := Option.some.inj H
            go_wp2_with (first | ((with_reducible refine gate_callee (f := 48) rfl ?_); refine goesL_ (some 23) rfl rfl Tryd.func48 (by kernel_rfl) rfl #[.slice A0 l0.length c0] rfl ga_ ?_; (with_reducible refine (printer_Print.calls kj4 _ _ l0 t126 t127 _ ?side1 ?side2 ?side3 A11.out).mono ?_); (case side1 => exact Gl.below hG (bl_ HB.out)); (case side2 => repeat (first | exact (Kd.V_reads' HO_0.out).2.2 | (with_reducible refine Kd.C_alloc ?_ _) | (with_reducible refine Kd.C_drewN ?_ _) | (with_reducible refine Kd.C_drew ?_))); (case side3 => exact (Kd.V_reads' HO_0.out).2.1); rintro e w21 ⟨rfl, hb⟩; refine ⟨_, rfl, ?_⟩; refine cut3_ (Kd.V_below (rV_ HO_0.out) hb) (Kd.V_below (rV_ HO_1.out) hb) (below_step (bl_ HB.out) hb) ?_; clear HO_0 HO_1 HB; intro HO_0 HO_1 HB; (try clear hb); (try clear hb2); (try clear hk); (try clear hi)) | ((with_reducible refine gate_callee (f := 48) rfl ?_); refine goesL_ (some 28) rfl rfl Tryd.func48 (by kernel_rfl) rfl #[.slice A1 l1.length c1] rfl ga_ ?_; (with_reducible refine (printer_Print.calls kj4 _ _ l1 t128 t129 _ ?side1 ?side2 ?side3 A12.out).mono ?_); (case side1 => exact Gl.below hG (bl_ HB.out)); (case side2 => repeat (first | exact (Kd.V_reads' HO_1.out).2.2 | (with_reducible refine Kd.C_alloc ?_ _) | (with_reducible refine Kd.C_drewN ?_ _) | (with_reducible refine Kd.C_drew ?_))); (case side3 => exact (Kd.V_reads' HO_1.out).2.1); rintro e w22 ⟨rfl, hb⟩; refine ⟨_, rfl, ?_⟩; refine cut3_ (Kd.V_below (rV_ HO_0.out) hb) (Kd.V_below (rV_ HO_1.out) hb) (below_step (bl_ HB.out) hb) ?_; clear HO_0 HO_1 HB; intro HO_0 HO_1 HB; (try clear hb); (try clear hb2); (try clear hk); (try clear hi)) | ((with_reducible refine gate_dst (N := 32) rfl ?_); (try (refine gate_guard (by rfl) ?_; dsimp only)); refine Kd.N_lit k41 _ 41 ?hg (N' := 32) ?hd (xs := ([] : List (S41))) (inner := []) (ok := (fun k_ => ((P0_ k_ ∨ P1_ k_) ∨ w.heap.size ≤ k_))) (okp := (fun k_ => ((P0_ k_ ∨ P1_ k_) ∨ w.heap.size ≤ k_))) ?hr ?hp (fun _ hk => hk) ((show ∀ k_, w22.heap.size ≤ k_ → (fun k_ => ((P0_ k_ ∨ P1_ k_) ∨ w.heap.size ≤ k_)) k_ from fun k_ hk => (.inr (Nat.le_trans (below_size (bl_ HB.out)) hk))) _ (Nat.le_refl _)) (Below.refl _ _) (Nat.le_refl _) (by simp) ?_; (case hd => rfl); (case hg => rfl); (case hr => first | (go_simp; done) | (go_simp; rfl)); (case hp => exact (Reps.none _ _)); intro v131 w23 ho24 hb hg_ hnew_; clear hg_ hnew_; (first | rw [← Ny130.out] at ho24 | (simp only [Int.reduceToNat] at ho24; rw [← Ny130.out] at ho24)); refine cut4_ (Kd.V_elder' (rV_ HO_0.out) (Kd.N_base ho24) hb) (Kd.V_elder' (rV_ HO_1.out) (Kd.N_base ho24) hb) (Kd.N_lower ho24 (below_size (bl_ HB.out))) (below_step (bl_ HB.out) hb) ?_; clear HO_0 HO_1 HB; intro HO_0 HO_1 HO132 HB; clear hb ho24) | ((with_reducible refine gate_builtin (b := .append) (xs := #[.tmp 32, .tmp 33]) rfl ?_); (try (refine gate_guard (by rfl) ?_; dsimp only)); at_builtin; refine Kd.N_append_rows k41 (w0 := w) w.heap.size rfl (.tmp 32) (.tmp 33) 23 41 (.agg #[(.string ⟨#[]⟩), (.slice none 0 0), (.bool false), (.slice none 0 0), (.int .i64 0)]) 80 rfl Tryd.underlying23 info41 rfl (by decide) (by omega) v131 y130 l0 _ _ _ (fun k_ => ((P0_ k_ ∨ P1_ k_) ∨ w.heap.size ≤ k_)) (fun k_ => ((fun k_ => ((P0_ k_ ∨ P1_ k_) ∨ w.heap.size ≤ k_))) k_ ∧ some k_ ≠ (v131 : Value).ownBlock) rfl rfl ?aO ?aR (fun _ hk => hk) ?aF ?aB ?aS ?aL ?_; (case aR => exact (by skip; exact Kd.V_F (Kd.V_mono (ok' := (fun k_ => ((fun k_ => ((P0_ k_ ∨ P1_ k_) ∨ w.heap.size ≤ k_))) k_ ∧ some k_ ≠ (v131 : Value).ownBlock)) (HO_0.out) (fun k_ hk => ⟨hk.1, hk.2⟩)))); (case aB => exact (bl_ HB.out)); (case aF => exact (fun k_ hk => (.inr (Nat.le_trans (below_size (bl_ HB.out)) hk)))); (case aO => exact (rN_ HO132.out)); (case aS => exact (below_size (bl_ HB.out))); (case aL => have := LMc13.out; omega); intro v134 w25 ho hb hg hat; rw [← Ny133.out] at ho; refine cut4_ (Kd.V_afterv (ok := (fun k_ => ((P0_ k_ ∨ P1_ k_) ∨ w.heap.size ≤ k_))) (rV_ HO_0.out) hg hat) (Kd.V_afterv (ok := (fun k_ => ((P0_ k_ ∨ P1_ k_) ∨ w.heap.size ≤ k_))) (rV_ HO_1.out) hg hat) (hb) (ho) ?_; clear HO_0 HO_1 HB HO132; intro HO_0 HO_1 HB HO135; clear ho hb hg hat) | ((with_reducible refine gate_builtin (b := .append) (xs := #[.tmp 34, .tmp 35]) rfl ?_); (try (refine gate_guard (by rfl) ?_; dsimp only)); at_builtin; refine Kd.N_append_rows k41 (w0 := w) w.heap.size rfl (.tmp 34) (.tmp 35) 23 41 (.agg #[(.string ⟨#[]⟩), (.slice none 0 0), (.bool false), (.slice none 0 0), (.int .i64 0)]) 80 rfl Tryd.underlying23 info41 rfl (by decide) (by omega) v134 y133 l1 _ _ _ (fun k_ => ((P0_ k_ ∨ P1_ k_) ∨ w.heap.size ≤ k_)) (fun k_ => ((fun k_ => ((P0_ k_ ∨ P1_ k_) ∨ w.heap.size ≤ k_))) k_ ∧ some k_ ≠ (v134 : Value).ownBlock) rfl rfl ?aO ?aR (fun _ hk => hk) ?aF ?aB ?aS ?aL ?_; (case aR => exact (by skip; exact Kd.V_F (Kd.V_mono (ok' := (fun k_ => ((fun k_ => ((P0_ k_ ∨ P1_ k_) ∨ w.heap.size ≤ k_))) k_ ∧ some k_ ≠ (v134 : Value).ownBlock)) (HO_1.out) (fun k_ hk => ⟨hk.1, hk.2⟩)))); (case aB => exact (bl_ HB.out)); (case aF => exact (fun k_ hk => (.inr (Nat.le_trans (below_size (bl_ HB.out)) hk)))); (case aO => exact (rN_ HO135.out)); (case aS => exact (below_size (bl_ HB.out))); (case aL => have := LMc14.out; omega); intro v137 w26 ho hb hg hat; rw [← Ny136.out] at ho; refine cut4_ (Kd.V_afterv (ok := (fun k_ => ((P0_ k_ ∨ P1_ k_) ∨ w.heap.size ≤ k_))) (rV_ HO_0.out) hg hat) (Kd.V_afterv (ok := (fun k_ => ((P0_ k_ ∨ P1_ k_) ∨ w.heap.size ≤ k_))) (rV_ HO_1.out) hg hat) (hb) (ho) ?_; clear HO_0 HO_1 HB HO135; intro HO_0 HO_1 HB HO138; clear ho hb hg hat; obtain ⟨Ao27, co27, eo27⟩ := Kd.N_slice HO138.out; subst eo27) | ((with_reducible refine gate_callee (f := 48) rfl ?_); refine goesL_ (some 37) rfl rfl Tryd.func48 (by kernel_rfl) rfl #[.slice Ao27 y136.length co27] rfl ga_ ?_; (with_reducible refine (printer_Print.calls kj4 _ _ y136 t139 t140 _ ?side1 ?side2 ?side3 A15.out).mono ?_); (case side1 => exact Gl.below hG (bl_ HB.out)); (case side2 => repeat (first | exact (Kd.N_reads' HO138.out).2.2 | (with_reducible refine Kd.C_alloc ?_ _) | (with_reducible refine Kd.C_drewN ?_ _) | (with_reducible refine Kd.C_drew ?_))); (case side3 => exact (Kd.N_reads' HO138.out).2.1); rintro e w28 ⟨rfl, hb⟩; refine ⟨_, rfl, ?_⟩; refine cut4_ (Kd.V_below (rV_ HO_0.out) hb) (Kd.V_below (rV_ HO_1.out) hb) (Kd.N_below (rN_ HO138.out) hb) (below_step (bl_ HB.out) hb) ?_; clear HO_0 HO_1 HO138 HB; intro HO_0 HO_1 HO138 HB; (try clear hb); (try clear hb2); (try clear hk); (try clear hi)))
            go_ret
            exact ⟨er_, bl_ HB.out⟩
           ·
            rw [if_neg c20] at H
            have c20b0 := beq_eq_false_iff_ne.mpr c20
            have c20b1 := bne_iff_ne.mpr c20
            by_cases c29 : t140 = 6
            ·
             rw [if_pos c29] at H
             have c29b0 := beq_iff_eq.mpr c29
             have c29b1 := bne_eq_false_iff_eq.mpr c29
             clear c29
             obtain rfl := Option.some.inj H
             go_wp2_with (first | ((with_reducible refine gate_callee (f := 48) rfl ?_); refine goesL_ (some 23) rfl rfl Tryd.func48 (by kernel_rfl) rfl #[.slice A0 l0.length c0] rfl ga_ ?_; (with_reducible refine (printer_Print.calls kj4 _ _ l0 t126 t127 _ ?side1 ?side2 ?side3 A11.out).mono ?_); (case side1 => exact Gl.below hG (bl_ HB.out)); (case side2 => repeat (first | exact (Kd.V_reads' HO_0.out).2.2 | (with_reducible refine Kd.C_alloc ?_ _) | (with_reducible refine Kd.C_drewN ?_ _) | (with_reducible refine Kd.C_drew ?_))); (case side3 => exact (Kd.V_reads' HO_0.out).2.1); rintro e w30 ⟨rfl, hb⟩; refine ⟨_, rfl, ?_⟩; refine cut3_ (Kd.V_below (rV_ HO_0.out) hb) (Kd.V_below (rV_ HO_1.out) hb) (below_step (bl_ HB.out) hb) ?_; clear HO_0 HO_1 HB; intro HO_0 HO_1 HB; (try clear hb); (try clear hb2); (try clear hk); (try clear hi)) | ((with_reducible refine gate_callee (f := 48) rfl ?_); refine goesL_ (some 28) rfl rfl Tryd.func48 (by kernel_rfl) rfl #[.slice A1 l1.length c1] rfl ga_ ?_; (with_reducible refine (printer_Print.calls kj4 _ _ l1 t128 t129 _ ?side1 ?side2 ?side3 A12.out).mono ?_); (case side1 => exact Gl.below hG (bl_ HB.out)); (case side2 => repeat (first | exact (Kd.V_reads' HO_1.out).2.2 | (with_reducible refine Kd.C_alloc ?_ _) | (with_reducible refine Kd.C_drewN ?_ _) | (with_reducible refine Kd.C_drew ?_))); (case side3 => exact (Kd.V_reads' HO_1.out).2.1); rintro e w31 ⟨rfl, hb⟩; refine ⟨_, rfl, ?_⟩; refine cut3_ (Kd.V_below (rV_ HO_0.out) hb) (Kd.V_below (rV_ HO_1.out) hb) (below_step (bl_ HB.out) hb) ?_; clear HO_0 HO_1 HB; intro HO_0 HO_1 HB; (try clear hb); (try clear hb2); (try clear hk); (try clear hi)) | ((with_reducible refine gate_dst (N := 32) rfl ?_); (try (refine gate_guard (by rfl) ?_; dsimp only)); refine Kd.N_lit k41 _ 41 ?hg (N' := 32) ?hd (xs := ([] : List (S41))) (inner := []) (ok := (fun k_ => ((P0_ k_ ∨ P1_ k_) ∨ w.heap.size ≤ k_))) (okp := (fun k_ => ((P0_ k_ ∨ P1_ k_) ∨ w.heap.size ≤ k_))) ?hr ?hp (fun _ hk => hk) ((show ∀ k_, w31.heap.size ≤ k_ → (fun k_ => ((P0_ k_ ∨ P1_ k_) ∨ w.heap.size ≤ k_)) k_ from fun k_ hk => (.inr (Nat.le_trans (below_size (bl_ HB.out)) hk))) _ (Nat.le_refl _)) (Below.refl _ _) (Nat.le_refl _) (by simp) ?_; (case hd => rfl); (case hg => rfl); (case hr => first | (go_simp; done) | (go_simp; rfl)); (case hp => exact (Reps.none _ _)); intro v131 w32 ho33 hb hg_ hnew_; clear hg_ hnew_; (first | rw [← Ny130.out] at ho33 | (simp only [Int.reduceToNat] at ho33; rw [← Ny130.out] at ho33)); refine cut4_ (Kd.V_elder' (rV_ HO_0.out) (Kd.N_base ho33) hb) (Kd.V_elder' (rV_ HO_1.out) (Kd.N_base ho33) hb) (Kd.N_lower ho33 (below_size (bl_ HB.out))) (below_step (bl_ HB.out) hb) ?_; clear HO_0 HO_1 HB; intro HO_0 HO_1 HO132 HB; clear hb ho33) | ((with_reducible refine gate_builtin (b := .append) (xs := #[.tmp 32, .tmp 33]) rfl ?_); (try (refine gate_guard (by rfl) ?_; dsimp only)); at_builtin; refine Kd.N_append_rows k41 (w0 := w) w.heap.size rfl (.tmp 32) (.tmp 33) 23 41 (.agg #[(.string ⟨#[]⟩), (.slice none 0 0), (.bool false), (.slice none 0 0), (.int .i64 0)]) 80 rfl Tryd.underlying23 info41 rfl (by decide) (by omega) v131 y130 l0 _ _ _ (fun k_ => ((P0_ k_ ∨ P1_ k_) ∨ w.heap.size ≤ k_)) (fun k_ => ((fun k_ => ((P0_ k_ ∨ P1_ k_) ∨ w.heap.size ≤ k_))) k_ ∧ some k_ ≠ (v131 : Value).ownBlock) rfl rfl ?aO ?aR (fun _ hk => hk) ?aF ?aB ?aS ?aL ?_; (case aR => exact (by skip; exact Kd.V_F (Kd.V_mono (ok' := (fun k_ => ((fun k_ => ((P0_ k_ ∨ P1_ k_) ∨ w.heap.size ≤ k_))) k_ ∧ some k_ ≠ (v131 : Value).ownBlock)) (HO_0.out) (fun k_ hk => ⟨hk.1, hk.2⟩)))); (case aB => exact (bl_ HB.out)); (case aF => exact (fun k_ hk => (.inr (Nat.le_trans (below_size (bl_ HB.out)) hk)))); (case aO => exact (rN_ HO132.out)); (case aS => exact (below_size (bl_ HB.out))); (case aL => have := LMc13.out; omega); intro v134 w34 ho hb hg hat; rw [← Ny133.out] at ho; refine cut4_ (Kd.V_afterv (ok := (fun k_ => ((P0_ k_ ∨ P1_ k_) ∨ w.heap.size ≤ k_))) (rV_ HO_0.out) hg hat) (Kd.V_afterv (ok := (fun k_ => ((P0_ k_ ∨ P1_ k_) ∨ w.heap.size ≤ k_))) (rV_ HO_1.out) hg hat) (hb) (ho) ?_; clear HO_0 HO_1 HB HO132; intro HO_0 HO_1 HB HO135; clear ho hb hg hat) | ((with_reducible refine gate_builtin (b := .append) (xs := #[.tmp 34, .tmp 35]) rfl ?_); (try (refine gate_guard (by rfl) ?_; dsimp only)); at_builtin; refine Kd.N_append_rows k41 (w0 := w) w.heap.size rfl (.tmp 34) (.tmp 35) 23 41 (.agg #[(.string ⟨#[]⟩), (.slice none 0 0), (.bool false), (.slice none 0 0), (.int .i64 0)]) 80 rfl Tryd.underlying23 info41 rfl (by decide) (by omega) v134 y133 l1 _ _ _ (fun k_ => ((P0_ k_ ∨ P1_ k_) ∨ w.heap.size ≤ k_)) (fun k_ => ((fun k_ => ((P0_ k_ ∨ P1_ k_) ∨ w.heap.size ≤ k_))) k_ ∧ some k_ ≠ (v134 : Value).ownBlock) rfl rfl ?aO ?aR (fun _ hk => hk) ?aF ?aB ?aS ?aL ?_; (case aR => exact (by skip; exact Kd.V_F (Kd.V_mono (ok' := (fun k_ => ((fun k_ => ((P0_ k_ ∨ P1_ k_) ∨ w.heap.size ≤ k_))) k_ ∧ some k_ ≠ (v134 : Value).ownBlock)) (HO_1.out) (fun k_ hk => ⟨hk.1, hk.2⟩)))); (case aB => exact (bl_ HB.out)); (case aF => exact (fun k_ hk => (.inr (Nat.le_trans (below_size (bl_ HB.out)) hk)))); (case aO => exact (rN_ HO135.out)); (case aS => exact (below_size (bl_ HB.out))); (case aL => have := LMc14.out; omega); intro v137 w35 ho hb hg hat; rw [← Ny136.out] at ho; refine cut4_ (Kd.V_afterv (ok := (fun k_ => ((P0_ k_ ∨ P1_ k_) ∨ w.heap.size ≤ k_))) (rV_ HO_0.out) hg hat) (Kd.V_afterv (ok := (fun k_ => ((P0_ k_ ∨ P1_ k_) ∨ w.heap.size ≤ k_))) (rV_ HO_1.out) hg hat) (hb) (ho) ?_; clear HO_0 HO_1 HB HO135; intro HO_0 HO_1 HB HO138; clear ho hb hg hat; obtain ⟨Ao36, co36, eo36⟩ := Kd.N_slice HO138.out; subst eo36) | ((with_reducible refine gate_callee (f := 48) rfl ?_); refine goesL_ (some 37) rfl rfl Tryd.func48 (by kernel_rfl) rfl #[.slice Ao36 y136.length co36] rfl ga_ ?_; (with_reducible refine (printer_Print.calls kj4 _ _ y136 t139 t140 _ ?side1 ?side2 ?side3 A15.out).mono ?_); (case side1 => exact Gl.below hG (bl_ HB.out)); (case side2 => repeat (first | exact (Kd.N_reads' HO138.out).2.2 | (with_reducible refine Kd.C_alloc ?_ _) | (with_reducible refine Kd.C_drewN ?_ _) | (with_reducible refine Kd.C_drew ?_))); (case side3 => exact (Kd.N_reads' HO138.out).2.1); rintro e w37 ⟨rfl, hb⟩; refine ⟨_, rfl, ?_⟩; refine cut4_ (Kd.V_below (rV_ HO_0.out) hb) (Kd.V_below (rV_ HO_1.out) hb) (Kd.N_below (rN_ HO138.out) hb) (below_step (bl_ HB.out) hb) ?_; clear HO_0 HO_1 HO138 HB; intro HO_0 HO_1 HO138 HB; (try clear hb); (try clear hb2); (try clear hk); (try clear hi)))
             go_ret
             have hw_ : wrap64 ((t126.size : Int) + (t128.size : Int)) = (t126.size : Int) + (t128.size : Int) := by have h_ : t126.size + t128.size ≤ 9223372036854775807 := (by first | assumption | exact of_decide_eq_true (by assumption)); unfold wrap64; omega
             rw [hw_]
             exact ⟨er_, bl_ HB.out⟩
            ·
             rw [if_neg c29] at H
             exact absurd H (by simp)
          ·
           rw [if_neg c19] at H
           exact absurd H (by simp)
         ·
          rw [if_neg c18] at H
          have c18b0 := beq_eq_false_iff_ne.mpr c18
          have c18b1 := bne_iff_ne.mpr c18
          by_cases c38 : t140 = 6
          ·
           rw [if_pos c38] at H
           have c38b0 := beq_iff_eq.mpr c38
           have c38b1 := bne_eq_false_iff_eq.mpr c38
           clear c38
           obtain rfl := Option.some.inj H
           go_wp2_with (first | ((with_reducible refine gate_callee (f := 48) rfl ?_); refine goesL_ (some 23) rfl rfl Tryd.func48 (by kernel_rfl) rfl #[.slice A0 l0.length c0] rfl ga_ ?_; (with_reducible refine (printer_Print.calls kj4 _ _ l0 t126 t127 _ ?side1 ?side2 ?side3 A11.out).mono ?_); (case side1 => exact Gl.below hG (bl_ HB.out)); (case side2 => repeat (first | exact (Kd.V_reads' HO_0.out).2.2 | (with_reducible refine Kd.C_alloc ?_ _) | (with_reducible refine Kd.C_drewN ?_ _) | (with_reducible refine Kd.C_drew ?_))); (case side3 => exact (Kd.V_reads' HO_0.out).2.1); rintro e w39 ⟨rfl, hb⟩; refine ⟨_, rfl, ?_⟩; refine cut3_ (Kd.V_below (rV_ HO_0.out) hb) (Kd.V_below (rV_ HO_1.out) hb) (below_step (bl_ HB.out) hb) ?_; clear HO_0 HO_1 HB; intro HO_0 HO_1 HB; (try clear hb); (try clear hb2); (try clear hk); (try clear hi)) | ((with_reducible refine gate_callee (f := 48) rfl ?_); refine goesL_ (some 28) rfl rfl Tryd.func48 (by kernel_rfl) rfl #[.slice A1 l1.length c1] rfl ga_ ?_; (with_reducible refine (printer_Print.calls kj4 _ _ l1 t128 t129 _ ?side1 ?side2 ?side3 A12.out).mono ?_); (case side1 => exact Gl.below hG (bl_ HB.out)); (case side2 => repeat (first | exact (Kd.V_reads' HO_1.out).2.2 | (with_reducible refine Kd.C_alloc ?_ _) | (with_reducible refine Kd.C_drewN ?_ _) | (with_reducible refine Kd.C_drew ?_))); (case side3 => exact (Kd.V_reads' HO_1.out).2.1); rintro e w40 ⟨rfl, hb⟩; refine ⟨_, rfl, ?_⟩; refine cut3_ (Kd.V_below (rV_ HO_0.out) hb) (Kd.V_below (rV_ HO_1.out) hb) (below_step (bl_ HB.out) hb) ?_; clear HO_0 HO_1 HB; intro HO_0 HO_1 HB; (try clear hb); (try clear hb2); (try clear hk); (try clear hi)) | ((with_reducible refine gate_dst (N := 32) rfl ?_); (try (refine gate_guard (by rfl) ?_; dsimp only)); refine Kd.N_lit k41 _ 41 ?hg (N' := 32) ?hd (xs := ([] : List (S41))) (inner := []) (ok := (fun k_ => ((P0_ k_ ∨ P1_ k_) ∨ w.heap.size ≤ k_))) (okp := (fun k_ => ((P0_ k_ ∨ P1_ k_) ∨ w.heap.size ≤ k_))) ?hr ?hp (fun _ hk => hk) ((show ∀ k_, w40.heap.size ≤ k_ → (fun k_ => ((P0_ k_ ∨ P1_ k_) ∨ w.heap.size ≤ k_)) k_ from fun k_ hk => (.inr (Nat.le_trans (below_size (bl_ HB.out)) hk))) _ (Nat.le_refl _)) (Below.refl _ _) (Nat.le_refl _) (by simp) ?_; (case hd => rfl); (case hg => rfl); (case hr => first | (go_simp; done) | (go_simp; rfl)); (case hp => exact (Reps.none _ _)); intro v131 w41 ho42 hb hg_ hnew_; clear hg_ hnew_; (first | rw [← Ny130.out] at ho42 | (simp only [Int.reduceToNat] at ho42; rw [← Ny130.out] at ho42)); refine cut4_ (Kd.V_elder' (rV_ HO_0.out) (Kd.N_base ho42) hb) (Kd.V_elder' (rV_ HO_1.out) (Kd.N_base ho42) hb) (Kd.N_lower ho42 (below_size (bl_ HB.out))) (below_step (bl_ HB.out) hb) ?_; clear HO_0 HO_1 HB; intro HO_0 HO_1 HO132 HB; clear hb ho42) | ((with_reducible refine gate_builtin (b := .append) (xs := #[.tmp 32, .tmp 33]) rfl ?_); (try (refine gate_guard (by rfl) ?_; dsimp only)); at_builtin; refine Kd.N_append_rows k41 (w0 := w) w.heap.size rfl (.tmp 32) (.tmp 33) 23 41 (.agg #[(.string ⟨#[]⟩), (.slice none 0 0), (.bool false), (.slice none 0 0), (.int .i64 0)]) 80 rfl Tryd.underlying23 info41 rfl (by decide) (by omega) v131 y130 l0 _ _ _ (fun k_ => ((P0_ k_ ∨ P1_ k_) ∨ w.heap.size ≤ k_)) (fun k_ => ((fun k_ => ((P0_ k_ ∨ P1_ k_) ∨ w.heap.size ≤ k_))) k_ ∧ some k_ ≠ (v131 : Value).ownBlock) rfl rfl ?aO ?aR (fun _ hk => hk) ?aF ?aB ?aS ?aL ?_; (case aR => exact (by skip; exact Kd.V_F (Kd.V_mono (ok' := (fun k_ => ((fun k_ => ((P0_ k_ ∨ P1_ k_) ∨ w.heap.size ≤ k_))) k_ ∧ some k_ ≠ (v131 : Value).ownBlock)) (HO_0.out) (fun k_ hk => ⟨hk.1, hk.2⟩)))); (case aB => exact (bl_ HB.out)); (case aF => exact (fun k_ hk => (.inr (Nat.le_trans (below_size (bl_ HB.out)) hk)))); (case aO => exact (rN_ HO132.out)); (case aS => exact (below_size (bl_ HB.out))); (case aL => have := LMc13.out; omega); intro v134 w43 ho hb hg hat; rw [← Ny133.out] at ho; refine cut4_ (Kd.V_afterv (ok := (fun k_ => ((P0_ k_ ∨ P1_ k_) ∨ w.heap.size ≤ k_))) (rV_ HO_0.out) hg hat) (Kd.V_afterv (ok := (fun k_ => ((P0_ k_ ∨ P1_ k_) ∨ w.heap.size ≤ k_))) (rV_ HO_1.out) hg hat) (hb) (ho) ?_; clear HO_0 HO_1 HB HO132; intro HO_0 HO_1 HB HO135; clear ho hb hg hat) | ((with_reducible refine gate_builtin (b := .append) (xs := #[.tmp 34, .tmp 35]) rfl ?_); (try (refine gate_guard (by rfl) ?_; dsimp only)); at_builtin; refine Kd.N_append_rows k41 (w0 := w) w.heap.size rfl (.tmp 34) (.tmp 35) 23 41 (.agg #[(.string ⟨#[]⟩), (.slice none 0 0), (.bool false), (.slice none 0 0), (.int .i64 0)]) 80 rfl Tryd.underlying23 info41 rfl (by decide) (by omega) v134 y133 l1 _ _ _ (fun k_ => ((P0_ k_ ∨ P1_ k_) ∨ w.heap.size ≤ k_)) (fun k_ => ((fun k_ => ((P0_ k_ ∨ P1_ k_) ∨ w.heap.size ≤ k_))) k_ ∧ some k_ ≠ (v134 : Value).ownBlock) rfl rfl ?aO ?aR (fun _ hk => hk) ?aF ?aB ?aS ?aL ?_; (case aR => exact (by skip; exact Kd.V_F (Kd.V_mono (ok' := (fun k_ => ((fun k_ => ((P0_ k_ ∨ P1_ k_) ∨ w.heap.size ≤ k_))) k_ ∧ some k_ ≠ (v134 : Value).ownBlock)) (HO_1.out) (fun k_ hk => ⟨hk.1, hk.2⟩)))); (case aB => exact (bl_ HB.out)); (case aF => exact (fun k_ hk => (.inr (Nat.le_trans (below_size (bl_ HB.out)) hk)))); (case aO => exact (rN_ HO135.out)); (case aS => exact (below_size (bl_ HB.out))); (case aL => have := LMc14.out; omega); intro v137 w44 ho hb hg hat; rw [← Ny136.out] at ho; refine cut4_ (Kd.V_afterv (ok := (fun k_ => ((P0_ k_ ∨ P1_ k_) ∨ w.heap.size ≤ k_))) (rV_ HO_0.out) hg hat) (Kd.V_afterv (ok := (fun k_ => ((P0_ k_ ∨ P1_ k_) ∨ w.heap.size ≤ k_))) (rV_ HO_1.out) hg hat) (hb) (ho) ?_; clear HO_0 HO_1 HB HO135; intro HO_0 HO_1 HB HO138; clear ho hb hg hat; obtain ⟨Ao45, co45, eo45⟩ := Kd.N_slice HO138.out; subst eo45) | ((with_reducible refine gate_callee (f := 48) rfl ?_); refine goesL_ (some 37) rfl rfl Tryd.func48 (by kernel_rfl) rfl #[.slice Ao45 y136.length co45] rfl ga_ ?_; (with_reducible refine (printer_Print.calls kj4 _ _ y136 t139 t140 _ ?side1 ?side2 ?side3 A15.out).mono ?_); (case side1 => exact Gl.below hG (bl_ HB.out)); (case side2 => repeat (first | exact (Kd.N_reads' HO138.out).2.2 | (with_reducible refine Kd.C_alloc ?_ _) | (with_reducible refine Kd.C_drewN ?_ _) | (with_reducible refine Kd.C_drew ?_))); (case side3 => exact (Kd.N_reads' HO138.out).2.1); rintro e w46 ⟨rfl, hb⟩; refine ⟨_, rfl, ?_⟩; refine cut4_ (Kd.V_below (rV_ HO_0.out) hb) (Kd.V_below (rV_ HO_1.out) hb) (Kd.N_below (rN_ HO138.out) hb) (below_step (bl_ HB.out) hb) ?_; clear HO_0 HO_1 HO138 HB; intro HO_0 HO_1 HO138 HB; (try clear hb); (try clear hb2); (try clear hk); (try clear hi)))
           go_ret
           exact ⟨er_, bl_ HB.out⟩
          ·
           rw [if_neg c38] at H
           exact absurd H (by simp)
        ·
         rw [if_neg c17] at H
         have c17b0 := beq_eq_false_iff_ne.mpr c17
         have c17b1 := bne_iff_ne.mpr c17
         obtain rfl := Option.some.inj H
         go_wp2_with (first | ((with_reducible refine gate_callee (f := 48) rfl ?_); refine goesL_ (some 23) rfl rfl Tryd.func48 (by kernel_rfl) rfl #[.slice A0 l0.length c0] rfl ga_ ?_; (with_reducible refine (printer_Print.calls kj4 _ _ l0 t126 t127 _ ?side1 ?side2 ?side3 A11.out).mono ?_); (case side1 => exact Gl.below hG (bl_ HB.out)); (case side2 => repeat (first | exact (Kd.V_reads' HO_0.out).2.2 | (with_reducible refine Kd.C_alloc ?_ _) | (with_reducible refine Kd.C_drewN ?_ _) | (with_reducible refine Kd.C_drew ?_))); (case side3 => exact (Kd.V_reads' HO_0.out).2.1); rintro e w47 ⟨rfl, hb⟩; refine ⟨_, rfl, ?_⟩; refine cut3_ (Kd.V_below (rV_ HO_0.out) hb) (Kd.V_below (rV_ HO_1.out) hb) (below_step (bl_ HB.out) hb) ?_; clear HO_0 HO_1 HB; intro HO_0 HO_1 HB; (try clear hb); (try clear hb2); (try clear hk); (try clear hi)) | ((with_reducible refine gate_callee (f := 48) rfl ?_); refine goesL_ (some 28) rfl rfl Tryd.func48 (by kernel_rfl) rfl #[.slice A1 l1.length c1] rfl ga_ ?_; (with_reducible refine (printer_Print.calls kj4 _ _ l1 t128 t129 _ ?side1 ?side2 ?side3 A12.out).mono ?_); (case side1 => exact Gl.below hG (bl_ HB.out)); (case side2 => repeat (first | exact (Kd.V_reads' HO_1.out).2.2 | (with_reducible refine Kd.C_alloc ?_ _) | (with_reducible refine Kd.C_drewN ?_ _) | (with_reducible refine Kd.C_drew ?_))); (case side3 => exact (Kd.V_reads' HO_1.out).2.1); rintro e w48 ⟨rfl, hb⟩; refine ⟨_, rfl, ?_⟩; refine cut3_ (Kd.V_below (rV_ HO_0.out) hb) (Kd.V_below (rV_ HO_1.out) hb) (below_step (bl_ HB.out) hb) ?_; clear HO_0 HO_1 HB; intro HO_0 HO_1 HB; (try clear hb); (try clear hb2); (try clear hk); (try clear hi)) | ((with_reducible refine gate_dst (N := 32) rfl ?_); (try (refine gate_guard (by rfl) ?_; dsimp only)); refine Kd.N_lit k41 _ 41 ?hg (N' := 32) ?hd (xs := ([] : List (S41))) (inner := []) (ok := (fun k_ => ((P0_ k_ ∨ P1_ k_) ∨ w.heap.size ≤ k_))) (okp := (fun k_ => ((P0_ k_ ∨ P1_ k_) ∨ w.heap.size ≤ k_))) ?hr ?hp (fun _ hk => hk) ((show ∀ k_, w48.heap.size ≤ k_ → (fun k_ => ((P0_ k_ ∨ P1_ k_) ∨ w.heap.size ≤ k_)) k_ from fun k_ hk => (.inr (Nat.le_trans (below_size (bl_ HB.out)) hk))) _ (Nat.le_refl _)) (Below.refl _ _) (Nat.le_refl _) (by simp) ?_; (case hd => rfl); (case hg => rfl); (case hr => first | (go_simp; done) | (go_simp; rfl)); (case hp => exact (Reps.none _ _)); intro v131 w49 ho50 hb hg_ hnew_; clear hg_ hnew_; (first | rw [← Ny130.out] at ho50 | (simp only [Int.reduceToNat] at ho50; rw [← Ny130.out] at ho50)); refine cut4_ (Kd.V_elder' (rV_ HO_0.out) (Kd.N_base ho50) hb) (Kd.V_elder' (rV_ HO_1.out) (Kd.N_base ho50) hb) (Kd.N_lower ho50 (below_size (bl_ HB.out))) (below_step (bl_ HB.out) hb) ?_; clear HO_0 HO_1 HB; intro HO_0 HO_1 HO132 HB; clear hb ho50) | ((with_reducible refine gate_builtin (b := .append) (xs := #[.tmp 32, .tmp 33]) rfl ?_); (try (refine gate_guard (by rfl) ?_; dsimp only)); at_builtin; refine Kd.N_append_rows k41 (w0 := w) w.heap.size rfl (.tmp 32) (.tmp 33) 23 41 (.agg #[(.string ⟨#[]⟩), (.slice none 0 0), (.bool false), (.slice none 0 0), (.int .i64 0)]) 80 rfl Tryd.underlying23 info41 rfl (by decide) (by omega) v131 y130 l0 _ _ _ (fun k_ => ((P0_ k_ ∨ P1_ k_) ∨ w.heap.size ≤ k_)) (fun k_ => ((fun k_ => ((P0_ k_ ∨ P1_ k_) ∨ w.heap.size ≤ k_))) k_ ∧ some k_ ≠ (v131 : Value).ownBlock) rfl rfl ?aO ?aR (fun _ hk => hk) ?aF ?aB ?aS ?aL ?_; (case aR => exact (by skip; exact Kd.V_F (Kd.V_mono (ok' := (fun k_ => ((fun k_ => ((P0_ k_ ∨ P1_ k_) ∨ w.heap.size ≤ k_))) k_ ∧ some k_ ≠ (v131 : Value).ownBlock)) (HO_0.out) (fun k_ hk => ⟨hk.1, hk.2⟩)))); (case aB => exact (bl_ HB.out)); (case aF => exact (fun k_ hk => (.inr (Nat.le_trans (below_size (bl_ HB.out)) hk)))); (case aO => exact (rN_ HO132.out)); (case aS => exact (below_size (bl_ HB.out))); (case aL => have := LMc13.out; omega); intro v134 w51 ho hb hg hat; rw [← Ny133.out] at ho; refine cut4_ (Kd.V_afterv (ok := (fun k_ => ((P0_ k_ ∨ P1_ k_) ∨ w.heap.size ≤ k_))) (rV_ HO_0.out) hg hat) (Kd.V_afterv (ok := (fun k_ => ((P0_ k_ ∨ P1_ k_) ∨ w.heap.size ≤ k_))) (rV_ HO_1.out) hg hat) (hb) (ho) ?_; clear HO_0 HO_1 HB HO132; intro HO_0 HO_1 HB HO135; clear ho hb hg hat) | ((with_reducible refine gate_builtin (b := .append) (xs := #[.tmp 34, .tmp 35]) rfl ?_); (try (refine gate_guard (by rfl) ?_; dsimp only)); at_builtin; refine Kd.N_append_rows k41 (w0 := w) w.heap.size rfl (.tmp 34) (.tmp 35) 23 41 (.agg #[(.string ⟨#[]⟩), (.slice none 0 0), (.bool false), (.slice none 0 0), (.int .i64 0)]) 80 rfl Tryd.underlying23 info41 rfl (by decide) (by omega) v134 y133 l1 _ _ _ (fun k_ => ((P0_ k_ ∨ P1_ k_) ∨ w.heap.size ≤ k_)) (fun k_ => ((fun k_ => ((P0_ k_ ∨ P1_ k_) ∨ w.heap.size ≤ k_))) k_ ∧ some k_ ≠ (v134 : Value).ownBlock) rfl rfl ?aO ?aR (fun _ hk => hk) ?aF ?aB ?aS ?aL ?_; (case aR => exact (by skip; exact Kd.V_F (Kd.V_mono (ok' := (fun k_ => ((fun k_ => ((P0_ k_ ∨ P1_ k_) ∨ w.heap.size ≤ k_))) k_ ∧ some k_ ≠ (v134 : Value).ownBlock)) (HO_1.out) (fun k_ hk => ⟨hk.1, hk.2⟩)))); (case aB => exact (bl_ HB.out)); (case aF => exact (fun k_ hk => (.inr (Nat.le_trans (below_size (bl_ HB.out)) hk)))); (case aO => exact (rN_ HO135.out)); (case aS => exact (below_size (bl_ HB.out))); (case aL => have := LMc14.out; omega); intro v137 w52 ho hb hg hat; rw [← Ny136.out] at ho; refine cut4_ (Kd.V_afterv (ok := (fun k_ => ((P0_ k_ ∨ P1_ k_) ∨ w.heap.size ≤ k_))) (rV_ HO_0.out) hg hat) (Kd.V_afterv (ok := (fun k_ => ((P0_ k_ ∨ P1_ k_) ∨ w.heap.size ≤ k_))) (rV_ HO_1.out) hg hat) (hb) (ho) ?_; clear HO_0 HO_1 HB HO135; intro HO_0 HO_1 HB HO138; clear ho hb hg hat; obtain ⟨Ao53, co53, eo53⟩ := Kd.N_slice HO138.out; subst eo53) | ((with_reducible refine gate_callee (f := 48) rfl ?_); refine goesL_ (some 37) rfl rfl Tryd.func48 (by kernel_rfl) rfl #[.slice Ao53 y136.length co53] rfl ga_ ?_; (with_reducible refine (printer_Print.calls kj4 _ _ y136 t139 t140 _ ?side1 ?side2 ?side3 A15.out).mono ?_); (case side1 => exact Gl.below hG (bl_ HB.out)); (case side2 => repeat (first | exact (Kd.N_reads' HO138.out).2.2 | (with_reducible refine Kd.C_alloc ?_ _) | (with_reducible refine Kd.C_drewN ?_ _) | (with_reducible refine Kd.C_drew ?_))); (case side3 => exact (Kd.N_reads' HO138.out).2.1); rintro e w54 ⟨rfl, hb⟩; refine ⟨_, rfl, ?_⟩; refine cut4_ (Kd.V_below (rV_ HO_0.out) hb) (Kd.V_below (rV_ HO_1.out) hb) (Kd.N_below (rN_ HO138.out) hb) (below_step (bl_ HB.out) hb) ?_; clear HO_0 HO_1 HO138 HB; intro HO_0 HO_1 HO138 HB; (try clear hb); (try clear hb2); (try clear hk); (try clear hi)))
         go_ret
         exact ⟨er_, bl_ HB.out⟩
       ·
        rw [if_neg c16] at H
        have c16b0 := beq_eq_false_iff_ne.mpr c16
        have c16b1 := bne_iff_ne.mpr c16
        obtain rfl := Option.some.inj H
        go_wp2_with (first | ((with_reducible refine gate_callee (f := 48) rfl ?_); refine goesL_ (some 23) rfl rfl Tryd.func48 (by kernel_rfl) rfl #[.slice A0 l0.length c0] rfl ga_ ?_; (with_reducible refine (printer_Print.calls kj4 _ _ l0 t126 t127 _ ?side1 ?side2 ?side3 A11.out).mono ?_); (case side1 => exact Gl.below hG (bl_ HB.out)); (case side2 => repeat (first | exact (Kd.V_reads' HO_0.out).2.2 | (with_reducible refine Kd.C_alloc ?_ _) | (with_reducible refine Kd.C_drewN ?_ _) | (with_reducible refine Kd.C_drew ?_))); (case side3 => exact (Kd.V_reads' HO_0.out).2.1); rintro e w55 ⟨rfl, hb⟩; refine ⟨_, rfl, ?_⟩; refine cut3_ (Kd.V_below (rV_ HO_0.out) hb) (Kd.V_below (rV_ HO_1.out) hb) (below_step (bl_ HB.out) hb) ?_; clear HO_0 HO_1 HB; intro HO_0 HO_1 HB; (try clear hb); (try clear hb2); (try clear hk); (try clear hi)) | ((with_reducible refine gate_callee (f := 48) rfl ?_); refine goesL_ (some 28) rfl rfl Tryd.func48 (by kernel_rfl) rfl #[.slice A1 l1.length c1] rfl ga_ ?_; (with_reducible refine (printer_Print.calls kj4 _ _ l1 t128 t129 _ ?side1 ?side2 ?side3 A12.out).mono ?_); (case side1 => exact Gl.below hG (bl_ HB.out)); (case side2 => repeat (first | exact (Kd.V_reads' HO_1.out).2.2 | (with_reducible refine Kd.C_alloc ?_ _) | (with_reducible refine Kd.C_drewN ?_ _) | (with_reducible refine Kd.C_drew ?_))); (case side3 => exact (Kd.V_reads' HO_1.out).2.1); rintro e w56 ⟨rfl, hb⟩; refine ⟨_, rfl, ?_⟩; refine cut3_ (Kd.V_below (rV_ HO_0.out) hb) (Kd.V_below (rV_ HO_1.out) hb) (below_step (bl_ HB.out) hb) ?_; clear HO_0 HO_1 HB; intro HO_0 HO_1 HB; (try clear hb); (try clear hb2); (try clear hk); (try clear hi)) | ((with_reducible refine gate_dst (N := 32) rfl ?_); (try (refine gate_guard (by rfl) ?_; dsimp only)); refine Kd.N_lit k41 _ 41 ?hg (N' := 32) ?hd (xs := ([] : List (S41))) (inner := []) (ok := (fun k_ => ((P0_ k_ ∨ P1_ k_) ∨ w.heap.size ≤ k_))) (okp := (fun k_ => ((P0_ k_ ∨ P1_ k_) ∨ w.heap.size ≤ k_))) ?hr ?hp (fun _ hk => hk) ((show ∀ k_, w56.heap.size ≤ k_ → (fun k_ => ((P0_ k_ ∨ P1_ k_) ∨ w.heap.size ≤ k_)) k_ from fun k_ hk => (.inr (Nat.le_trans (below_size (bl_ HB.out)) hk))) _ (Nat.le_refl _)) (Below.refl _ _) (Nat.le_refl _) (by simp) ?_; (case hd => rfl); (case hg => rfl); (case hr => first | (go_simp; done) | (go_simp; rfl)); (case hp => exact (Reps.none _ _)); intro v131 w57 ho58 hb hg_ hnew_; clear hg_ hnew_; (first | rw [← Ny130.out] at ho58 | (simp only [Int.reduceToNat] at ho58; rw [← Ny130.out] at ho58)); refine cut4_ (Kd.V_elder' (rV_ HO_0.out) (Kd.N_base ho58) hb) (Kd.V_elder' (rV_ HO_1.out) (Kd.N_base ho58) hb) (Kd.N_lower ho58 (below_size (bl_ HB.out))) (below_step (bl_ HB.out) hb) ?_; clear HO_0 HO_1 HB; intro HO_0 HO_1 HO132 HB; clear hb ho58) | ((with_reducible refine gate_builtin (b := .append) (xs := #[.tmp 32, .tmp 33]) rfl ?_); (try (refine gate_guard (by rfl) ?_; dsimp only)); at_builtin; refine Kd.N_append_rows k41 (w0 := w) w.heap.size rfl (.tmp 32) (.tmp 33) 23 41 (.agg #[(.string ⟨#[]⟩), (.slice none 0 0), (.bool false), (.slice none 0 0), (.int .i64 0)]) 80 rfl Tryd.underlying23 info41 rfl (by decide) (by omega) v131 y130 l0 _ _ _ (fun k_ => ((P0_ k_ ∨ P1_ k_) ∨ w.heap.size ≤ k_)) (fun k_ => ((fun k_ => ((P0_ k_ ∨ P1_ k_) ∨ w.heap.size ≤ k_))) k_ ∧ some k_ ≠ (v131 : Value).ownBlock) rfl rfl ?aO ?aR (fun _ hk => hk) ?aF ?aB ?aS ?aL ?_; (case aR => exact (by skip; exact Kd.V_F (Kd.V_mono (ok' := (fun k_ => ((fun k_ => ((P0_ k_ ∨ P1_ k_) ∨ w.heap.size ≤ k_))) k_ ∧ some k_ ≠ (v131 : Value).ownBlock)) (HO_0.out) (fun k_ hk => ⟨hk.1, hk.2⟩)))); (case aB => exact (bl_ HB.out)); (case aF => exact (fun k_ hk => (.inr (Nat.le_trans (below_size (bl_ HB.out)) hk)))); (case aO => exact (rN_ HO132.out)); (case aS => exact (below_size (bl_ HB.out))); (case aL => have := LMc13.out; omega); intro v134 w59 ho hb hg hat; rw [← Ny133.out] at ho; refine cut4_ (Kd.V_afterv (ok := (fun k_ => ((P0_ k_ ∨ P1_ k_) ∨ w.heap.size ≤ k_))) (rV_ HO_0.out) hg hat) (Kd.V_afterv (ok := (fun k_ => ((P0_ k_ ∨ P1_ k_) ∨ w.heap.size ≤ k_))) (rV_ HO_1.out) hg hat) (hb) (ho) ?_; clear HO_0 HO_1 HB HO132; intro HO_0 HO_1 HB HO135; clear ho hb hg hat) | ((with_reducible refine gate_builtin (b := .append) (xs := #[.tmp 34, .tmp 35]) rfl ?_); (try (refine gate_guard (by rfl) ?_; dsimp only)); at_builtin; refine Kd.N_append_rows k41 (w0 := w) w.heap.size rfl (.tmp 34) (.tmp 35) 23 41 (.agg #[(.string ⟨#[]⟩), (.slice none 0 0), (.bool false), (.slice none 0 0), (.int .i64 0)]) 80 rfl Tryd.underlying23 info41 rfl (by decide) (by omega) v134 y133 l1 _ _ _ (fun k_ => ((P0_ k_ ∨ P1_ k_) ∨ w.heap.size ≤ k_)) (fun k_ => ((fun k_ => ((P0_ k_ ∨ P1_ k_) ∨ w.heap.size ≤ k_))) k_ ∧ some k_ ≠ (v134 : Value).ownBlock) rfl rfl ?aO ?aR (fun _ hk => hk) ?aF ?aB ?aS ?aL ?_; (case aR => exact (by skip; exact Kd.V_F (Kd.V_mono (ok' := (fun k_ => ((fun k_ => ((P0_ k_ ∨ P1_ k_) ∨ w.heap.size ≤ k_))) k_ ∧ some k_ ≠ (v134 : Value).ownBlock)) (HO_1.out) (fun k_ hk => ⟨hk.1, hk.2⟩)))); (case aB => exact (bl_ HB.out)); (case aF => exact (fun k_ hk => (.inr (Nat.le_trans (below_size (bl_ HB.out)) hk)))); (case aO => exact (rN_ HO135.out)); (case aS => exact (below_size (bl_ HB.out))); (case aL => have := LMc14.out; omega); intro v137 w60 ho hb hg hat; rw [← Ny136.out] at ho; refine cut4_ (Kd.V_afterv (ok := (fun k_ => ((P0_ k_ ∨ P1_ k_) ∨ w.heap.size ≤ k_))) (rV_ HO_0.out) hg hat) (Kd.V_afterv (ok := (fun k_ => ((P0_ k_ ∨ P1_ k_) ∨ w.heap.size ≤ k_))) (rV_ HO_1.out) hg hat) (hb) (ho) ?_; clear HO_0 HO_1 HB HO135; intro HO_0 HO_1 HB HO138; clear ho hb hg hat; obtain ⟨Ao61, co61, eo61⟩ := Kd.N_slice HO138.out; subst eo61) | ((with_reducible refine gate_callee (f := 48) rfl ?_); refine goesL_ (some 37) rfl rfl Tryd.func48 (by kernel_rfl) rfl #[.slice Ao61 y136.length co61] rfl ga_ ?_; (with_reducible refine (printer_Print.calls kj4 _ _ y136 t139 t140 _ ?side1 ?side2 ?side3 A15.out).mono ?_); (case side1 => exact Gl.below hG (bl_ HB.out)); (case side2 => repeat (first | exact (Kd.N_reads' HO138.out).2.2 | (with_reducible refine Kd.C_alloc ?_ _) | (with_reducible refine Kd.C_drewN ?_ _) | (with_reducible refine Kd.C_drew ?_))); (case side3 => exact (Kd.N_reads' HO138.out).2.1); rintro e w62 ⟨rfl, hb⟩; refine ⟨_, rfl, ?_⟩; refine cut4_ (Kd.V_below (rV_ HO_0.out) hb) (Kd.V_below (rV_ HO_1.out) hb) (Kd.N_below (rN_ HO138.out) hb) (below_step (bl_ HB.out) hb) ?_; clear HO_0 HO_1 HO138 HB; intro HO_0 HO_1 HO138 HB; (try clear hb); (try clear hb2); (try clear hk); (try clear hi)))
        go_ret
        exact ⟨er_, bl_ HB.out⟩
      ·
       rw [if_neg c14] at H
       exact absurd H (by simp)
     ·
      rw [if_neg c13] at H
      exact absurd H (by simp)
 ·
  replace c4 := Bool.eq_false_iff.mpr c4
  subst c4
  have H1 : (none) = some r := by rw [if_neg (show ¬ (false = true) by decide)] at H; exact H
  clear H
  have H := H1
  clear H1
  exact absurd H (by simp)
end Go.Proofs.YtkifdadhojbohaaDoor.Pr
namespace Go.Proofs.YtkifdadhojbohaaDoor.Pu
open Go.RowKit Go.Proofs.YtkifdadhojbohaaDoor Go.Proofs.YtkifdadhojbohaaDoor.Pr Go.Proofs.YtkifdadhojbohaaDoorW.PrintWords Go.Proofs.YtkifdadhojbohaaDoorW.PrintLast Go.Proofs.YtkifdadhojbohaaDoorW.PrintMore
theorem AllC.append {P : S41 → Prop} {a b : List S41} (ha : AllC P a) (hb : AllC P b) : AllC P (a ++ b) := by
  induction ha with
  | nil => exact hb
  | cons c l h1 h2 _ _ ih => exact AllC.cons c (l ++ b) h1 h2 ih
theorem chk_app (a b : List S41) : chkL (a ++ b) = 0 ↔ chkL a = 0 ∧ chkL b = 0 := by
  unfold chkL
  rw [form_append, dep_append]
  cases ha : formL a <;> cases hb : formL b <;> simp
  omega
theorem print_zero {l : List S41} (h : (printA l).2 = 0) : chkL l = 0 ∧ (srcL 0 l).length ≤ 65536 ∧ (printA l).1 = str (srcL 0 l) := by
  unfold printA at h ⊢
  by_cases hc : chkL l = 0
  · rw [if_pos hc] at h ⊢
    by_cases h6 : 65536 < (srcL 0 l).length
    · rw [if_pos h6] at h; cases h
    · rw [if_neg h6]; exact ⟨hc, by omega, rfl⟩
  · rw [if_neg hc] at h; exact absurd h hc
theorem print_of {l : List S41} (h : chkL l = 0) (h6 : (srcL 0 l).length ≤ 65536) : printA l = (str (srcL 0 l), 0) := by
  unfold printA
  rw [if_pos h, if_neg (by omega)]
theorem print_long {l : List S41} (h : chkL l = 0) (h6 : 65536 < (srcL 0 l).length) : printA l = ((⟨#[]⟩ : ByteArray), 6) := by
  unfold printA
  rw [if_pos h, if_pos h6]
/-- What the law tells of the three answers. -/
def joinsT (p q r : ByteArray × Int) : Option Bool := if p.2 = 0 then (if q.2 = 0 then (if r.2 = 0 then (if p.1.size + q.1.size ≤ 9223372036854775807 then (if r.1.toList = (p.1 ++ q.1).toList then (some true) else (if r.2 = 6 then (some (decide ((wrap64 ((p.1.size : Int) + (q.1.size : Int))) > 65536))) else (none))) else (none)) else (if r.2 = 6 then (some (decide ((wrap64 ((p.1.size : Int) + (q.1.size : Int))) > 65536))) else (none))) else (some (r.2 != 0))) else (some (r.2 != 0))
theorem joins_bad (a b : List S41) (h : ¬ ((printA a).2 = 0 ∧ (printA b).2 = 0)) : ((printA (a ++ b)).2 != 0) = true := by
  rw [bne_iff_ne]
  intro zc
  obtain ⟨c0, h6, _⟩ := print_zero zc
  obtain ⟨ca, cb⟩ := (chk_app a b).1 c0
  rw [src_append, List.length_append] at h6
  apply h
  rw [print_of ca (by omega), print_of cb (by omega)]
  exact ⟨rfl, rfl⟩
theorem sum_gt {x y : Nat} (h : 65536 < x + y) (hx : x ≤ 65536) (hy : y ≤ 65536) : wrap64 ((x : Int) + (y : Int)) > 65536 := by
  rw [wrap64_of (by omega) (by omega)]
  omega
theorem joins_tail (a b : List S41) : joinsT (printA a) (printA b) (printA (a ++ b)) = some true := by
  unfold joinsT
  by_cases za : (printA a).2 = 0
  · refine (if_pos za).trans ?_
    by_cases zb : (printA b).2 = 0
    · refine (if_pos zb).trans ?_
      obtain ⟨ca, na, ea⟩ := print_zero za
      obtain ⟨cb, nb, eb⟩ := print_zero zb
      have cc := (chk_app a b).2 ⟨ca, cb⟩
      have hs : srcL 0 (a ++ b) = srcL 0 a ++ srcL 0 b := src_append 0 a b
      have sa : (printA a).1.size = (srcL 0 a).length := by rw [ea, size_str]
      have sb : (printA b).1.size = (srcL 0 b).length := by rw [eb, size_str]
      by_cases h6 : 65536 < (srcL 0 (a ++ b)).length
      · have r2 : (printA (a ++ b)).2 = 6 := by rw [print_long cc h6]
        have r0 : ¬ (printA (a ++ b)).2 = 0 := by rw [r2]; decide
        refine (if_neg r0).trans ((if_pos r2).trans (congrArg some (decide_eq_true ?_)))
        rw [hs, List.length_append] at h6
        rw [sa, sb]
        exact sum_gt h6 na nb
      · have r0 := print_of cc (l := a ++ b) (by omega)
        have r2 : (printA (a ++ b)).2 = 0 := by rw [r0]
        have r1 : (printA (a ++ b)).1.toList = ((printA a).1 ++ (printA b).1).toList := by rw [r0, ea, eb, str_append, hs]
        have rs : (printA a).1.size + (printA b).1.size ≤ 9223372036854775807 := by rw [sa, sb]; exact Nat.le_trans (Nat.add_le_add na nb) (Nat.le_of_ble_eq_true rfl)
        exact (if_pos r2).trans ((if_pos rs).trans (if_pos r1))
    · exact (if_neg zb).trans (congrArg some (joins_bad a b fun h => zb h.2))
  · exact (if_neg za).trans (congrArg some (joins_bad a b fun h => za h.1))
theorem printerJoins (a b : List S41) : ∃ k, salchowlaw11_PrinterJoins.f k a b = some true := by
  apply Ev.rounds
  unfold salchowlaw11_PrinterJoins.f
  refine Ev.bind awake11_f (Ev.ifp rfl ?_)
  have skip : Ev (fun k => salchowlaw11_PrinterJoins.j0 k a b true) true := ⟨1, fun k hk => by
    obtain ⟨k, rfl⟩ : ∃ m, k = m + 1 := ⟨k - 1, by omega⟩
    show salchowlaw11_PrinterJoins.j0 (k + 1) a b true = some true
    rw [salchowlaw11_PrinterJoins.j0]
    exact if_pos rfl⟩
  obtain ⟨x, g1, g2⟩ := Small_f a 300 (by omega)
  obtain ⟨y, j1, j2⟩ := Small_f b 300 (by omega)
  refine Ev.bind g1 ?_
  cases x with
  | false => exact Ev.ifn Bool.false_ne_true skip
  | true =>
    refine Ev.ifp rfl (Ev.bind j1 ?_)
    cases y with
    | false => exact skip
    | true =>
      obtain ⟨ha, hPa⟩ := g2 rfl
      obtain ⟨hb, hPb⟩ := j2 rfl
      have pa := Print_f a (by omega) (txt_mono (m := 900000) (by omega) hPa)
      have pb := Print_f b (by omega) (txt_mono (m := 900000) (by omega) hPb)
      have pc := Print_f (a ++ b) (by rw [sz_append]; omega) (txt_mono (m := 900000) (by omega) (hPa.append hPb))
      have la := len_le a
      have lb := len_le b
      obtain ⟨K1, h1⟩ := pa
      obtain ⟨K2, h2⟩ := pb
      obtain ⟨K3, h3⟩ := pc
      have ht := joins_tail a b
      refine ⟨K1 + K2 + K3 + 1, fun k hk => ?_⟩
      obtain ⟨k, rfl⟩ : ∃ m, k = m + 1 := ⟨k - 1, by omega⟩
      have e1 : printer_Print.f k a = some (printA a) := h1 k (by omega)
      have e2 : printer_Print.f k b = some (printA b) := h2 k (by omega)
      have e3 : printer_Print.f k (a ++ b) = some (printA (a ++ b)) := h3 k (by omega)
      clear h1 h2 h3
      show salchowlaw11_PrinterJoins.j0 (k + 1) a b false = some true
      generalize printA a = p at e1 ht
      generalize printA b = q at e2 ht
      generalize printA (a ++ b) = r at e3 ht
      have l1 : ([] : List S41).length + a.length < 1759218604441 := by simp only [List.length_nil]; omega
      have l2 : ([] ++ a).length + b.length < 1759218604441 := by rw [List.nil_append]; omega
      have e3' : printer_Print.f k (([] ++ a) ++ b) = some r := by rw [List.nil_append]; exact e3
      rw [salchowlaw11_PrinterJoins.j0]
      refine (if_neg Bool.false_ne_true).trans ?_
      rw [e1, Option.bind_some, e2, Option.bind_some, Option.bind_some]
      refine (if_pos l1).trans ?_
      rw [Option.bind_some]
      refine (if_pos l2).trans ?_
      rw [e3', Option.bind_some]
      exact ht
end Go.Proofs.YtkifdadhojbohaaDoor.Pu
namespace Go.Proofs.YtkifdadhojbohaaDoor.Pr
open Go.RowKit Go.Proofs.YtkifdadhojbohaaDoor Go.Proofs.YtkifdadhojbohaaDoorW.PrintWords Go.Proofs.YtkifdadhojbohaaDoorW.PrintLast Go.Proofs.YtkifdadhojbohaaDoorW.PrintMore
theorem heap46 : Kd.Heap k46 := Kd.heap_iso _ (Kd.heap_pair (Kd.heap_int .i64) (Kd.heap_pair Kd.heap_string (Kd.heap_pair (Kd.heap_int .i64) (Kd.heap_int .i64))))
theorem heap41 : Kd.Heap k41 := Kd.heap_fix (fun d hd => Kd.heap_iso _ (Kd.heap_pair Kd.heap_string (Kd.heap_pair (Kd.heap_slice 46 heap46) (Kd.heap_pair Kd.heap_bool (Kd.heap_pair (Kd.heap_slice 41 hd) (Kd.heap_int .i64))))))
theorem salchowlaw11_PrinterJoins.callsC (k : Nat) (A0 : Option Addr) (c0 : Nat) (l0 : List (S41)) (A1 : Option Addr) (c1 : Nat) (l1 : List (S41)) (r : Bool) (w : World) (hG : Gl w) (hr0 : Kd.C k41 w A0 l0.length l0) (hc0 : l0.length ≤ c0) (hr1 : Kd.C k41 w A1 l1.length l1) (hc1 : l1.length ≤ c1) (h : salchowlaw11_PrinterJoins.f k l0 l1 = some r) :
    Calls Tryd.prog 17 #[.slice A0 l0.length c0, .slice A1 l1.length c1] w fun e w' => e = .returned (.bool r) ∧ Below w.heap.size w w' :=
  salchowlaw11_PrinterJoins.calls k (fun k_ => k_ < w.heap.size) A0 c0 l0 (fun k_ => k_ < w.heap.size) A1 c1 l1 r w hG (Kd.V_mk hc0 (Kd.C_F heap41 hr0)) (Kd.V_mk hc1 (Kd.C_F heap41 hr1)) h
end Go.Proofs.YtkifdadhojbohaaDoor.Pr
namespace Go.Proofs.YtkifdadhojbohaaDoor.printerJoins
open Go.Proofs.YtkifdadhojbohaaDoorW.PrintWords
open Go.ChangeShapes Go.WideShapes Go.ChangeAt Go.RowKit Rk
open Go.ChangeMaps (open_string shut_string)
theorem c09 : (Rows.printerJoinsRow.inPlace == Tryd.prog.inPlace 17) = true := by kernel_rfl
theorem c10 : (Rows.printerJoinsRow.unfollowed == Tryd.prog.unfollowed 17) = true := by kernel_rfl
theorem c11 : (Rows.printerJoinsRow.recurses == Tryd.prog.recurses 17) = true := by kernel_rfl
theorem c12 : (Rows.printerJoinsRow.named == Tryd.prog.varsNamed 17) = true := by kernel_rfl
theorem facts : joinedFacts Tryd.prog 17 Tryd.f17 Rows.printerJoinsSpec Rows.printerJoinsRow = true :=
  facts_of _ _ _ _ _ (by kernel_rfl) out_ rowed_ (by kernel_rfl) (by kernel_rfl) rfl (by kernel_rfl) rfl (by kernel_rfl) c09 c10 c11 c12 (by kernel_rfl) (by kernel_rfl) (by kernel_rfl) (by kernel_rfl) (by kernel_rfl)
    (by kernel_rfl) (by kernel_rfl) (by kernel_rfl) (by kernel_rfl) (by kernel_rfl) (by kernel_rfl) heard_ enter_ (by kernel_rfl) (by kernel_rfl) (by kernel_rfl) (by kernel_rfl) (by kernel_rfl) (by kernel_rfl)
theorem goes : false = Rows.printerJoinsRow.goesBy Tryd.prog := by kernel_rfl
set_option maxRecDepth 100000 in
theorem lifted (os : Os) (started : os.Started) (H : Type) (enc : TypeId × Value → H) :
    ReturnsInHanded {} Tryd.checked os 17 .any (fun w args => (Rows.printerJoinsSpec.pre enc Tryd.prog Tryd.f17 [] false w args ∧ laidMetH Tryd.prog laidB w) ∧ sizedMet enc Tryd.prog Tryd.f17 (OpenSpec.ofChange Rows.printerJoinsSpec) false w args)
      (Rows.printerJoinsSpec.post enc Tryd.prog Tryd.f17 false true false false) := by
  refine returnsInHanded_of_change_and (C := Tryd.checked) (X := fun w _ => laidMetH Tryd.prog laidB w) (fun _ _ _ hh h => h.of_heap hh) own started (by kernel_rfl) Tryd.func17
    (ChangeSpec.witness_shaped (enc := enc) (C := Tryd.checked) (os := os) (X := fun w _ => laidMetH Tryd.prog laidB w) false (wB os) #[.slice none 0 0, .slice none 0 0] 8 (World.laidAll_os _ _ _)
      (World.shaped_of_ZipB (by kernel_rfl) (by kernel_rfl)) (by kernel_rfl) (by kernel_rfl) (by kernel_rfl) (met_B os _)) ?_
  intro W base args ds gs before hval0 hW _ hsz0 hL _
  have hsz : (DataW.weightsEach Tryd.prog (Tryd.f17.params.toList ++ Rows.printerJoinsSpec.plain.varTypes Tryd.prog) (ds ++ gs)).all (· ≤ reachBytes) = true := hsz0
  have hval : ∀ (j : Nat) t v, Tryd.f17.params[j]? = some t → args[j]? = some v → Value.okWide Tryd.prog W .any base t v := hval0
  have hW' := hW
  obtain ⟨p, q, hA0, hV, rfl, _, _⟩ := hW
  have hA : DataW.TrodAll enc Tryd.prog W 0 (fun _ => true) true Tryd.f17.params.toList args.toList ds p := hA0
  rw [Tryd.params17] at hA hval hsz
  obtain ⟨v0, vs0, d0, ds0, p0, q0, hargs, rfl, rfl, h0, r0⟩ := trodAll_cons hA
  obtain ⟨v1, vs1, d1, ds1, p1, q1, rfl, rfl, rfl, h1, r1⟩ := trodAll_cons r0
  obtain ⟨rfl, rfl, rfl⟩ := trodAll_nil r1
  obtain rfl : args = #[v0, v1] := by cases args; simp_all
  obtain ⟨rfl, rfl⟩ := trodVars_none hV
  obtain ⟨a0, len0, cap0, rfl⟩ := okWide_slice Tryd.underlying23 (hval 0 23 v0 rfl rfl)
  have k0 := h0
  have lt0 : ∀ x ∈ p0, x.block < W.heap.size := by obtain ⟨m, hm⟩ := k0; exact DataW.trod_lt m _ _ _ hm
  obtain ⟨A0, T0, c0, e0, l0, g0⟩ : ∃ A T c, Value.slice a0 len0 cap0 = .slice A T.length c ∧ T.length ≤ c ∧ Kd.C Pr.k41 W A T.length T := by
    obtain ⟨fuel, hf⟩ := h0
    exact open_clauses (fuel := fuel) (by simpa [Value.cells] using hf)
  rw [e0] at k0 hW' ⊢
  obtain ⟨a1, len1, cap1, rfl⟩ := okWide_slice Tryd.underlying23 (hval 1 23 v1 rfl rfl)
  have k1 := h1
  have lt1 : ∀ x ∈ p1, x.block < W.heap.size := by obtain ⟨m, hm⟩ := k1; exact DataW.trod_lt m _ _ _ hm
  obtain ⟨A1, T1, c1, e1, l1, g1⟩ : ∃ A T c, Value.slice a1 len1 cap1 = .slice A T.length c ∧ T.length ≤ c ∧ Kd.C Pr.k41 W A T.length T := by
    obtain ⟨fuel, hf⟩ := h1
    exact open_clauses (fuel := fuel) (by simpa [Value.cells] using hf)
  rw [e1] at k1 hW' ⊢
  clear hA0 hval0 hsz0 hsz
  obtain ⟨k, hk⟩ := Pu.printerJoins T0 T1
  refine (Pr.salchowlaw11_PrinterJoins.callsC k A0 c0 T0 A1 c1 T1 true W (gl_B hL) g0 l0 g1 l1 hk).mono fun e W' ⟨he, bel⟩ => ?_
  subst he
  exact ⟨_, rfl, _, _, _, [], _, [], hW', trodAll_mk1 (shut_bool Tryd.underlying4 _), (trodAll_cons_mk (Below.trod out_ (by kernel_rfl) (of_decide_eq_true (by kernel_rfl)) k0 bel lt0) (trodAll_cons_mk (Below.trod out_ (by kernel_rfl) (of_decide_eq_true (by kernel_rfl)) k1 bel lt1) trodAll_mk0)), rfl, bel.frame _, fun h => by cases h⟩
theorem over : Rows.printerJoinsRow.holds Tryd.pinned (OpenSpec.ofChange Rows.printerJoinsSpec) :=
  OpenClaim.holds_of_wide 17 Tryd.f17 rfl rfl rfl rfl rfl rfl rfl ⟨rfl, rfl, rfl, rfl, rfl⟩ rfl rfl rfl rfl rfl (by kernel_rfl) Tryd.func17 facts
    (of_decide_eq_true (by kernel_rfl)) (by unfold Func.isWrapper; first | (rw [if_pos (by decide +kernel)]; kernel_rfl) | (rw [if_neg (by decide +kernel)]; exact ⟨rfl, rfl⟩))
    (fun os started H enc _ => lifted os started H enc)
theorem card : Rows.PrinterJoinsCardSaid :=
  Claim7.holds_tied_plain_at .later [] [.data, .data, .data, .data, .sentinel, .sentinel, .pinned] true (true, "74d2011260c70b611c86c4d3b7f5d11cc5fefff18c715f175ff3522b41f9dd0c") true
    over (fun _ h => by cases h) (by kernel_rfl) (fun _ h => by cases h) printerJoins_row_tie rfl ⟨rfl, rfl⟩ mainIs_ rfl
    (fun f fn hf hfn => by
      obtain rfl : f = 17 := Option.some.inj ((show Tryd.prog.funcNamed "salchow/salchowlaw11.PrinterJoins" = some 17 by kernel_rfl).symm.trans hf) |>.symm
      obtain rfl : fn = Tryd.f17 := (Option.some.inj (Tryd.func17.symm.trans hfn)).symm
      exact ⟨looks_, fun j t ht => by
        rw [Tryd.params17] at ht
        have hm : t ∈ [23, 23] := by simpa using Array.mem_of_getElem? ht
        have hall : ([23, 23].all fun u => !Tryd.prog.wantsStandIn u) = true := by kernel_rfl
        exact (show Tryd.prog.wantsStandIn t = false by simpa using List.all_eq_true.1 hall t hm)⟩)
    goes
#print axioms card
end Go.Proofs.YtkifdadhojbohaaDoor.printerJoins
