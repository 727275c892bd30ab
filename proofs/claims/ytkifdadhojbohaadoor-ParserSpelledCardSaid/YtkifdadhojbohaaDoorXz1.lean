/- Joined out of the texts of this proof that bear the names PrF72 PrF45 PrF46 PrF16 PwK Rt RowParserSpelled: what each shows stands over it there. -/
import Derived.Test.YtkifdadhojbohaaDoorXk1
import Derived.Test.YtkifdadhojbohaaDoorXv1
import Derived.Test.YtkifdadhojbohaaDoorXa1
import Derived.Test.YtkifdadhojbohaaDoorXt1
import Derived.Test.YtkifdadhojbohaaDoorXs1
import Derived.Test.YtkifdadhojbohaaDoorXp1
import Derived.Test.YtkifdadhojbohaaDoorXr1
import Derived.Deep.Slices
import Derived.DataReads
import Derived.DataElems
import Derived.Lib.SmallJoins
import Derived.ChangeArms
import Derived.Test.YtkifdadhojbohaaDoorCards
import Derived.Test.YtkifdadhojbohaaDoorTie
import Derived.WalkKit
import Derived.OpenShut
import Derived.ShutString
import Derived.ChangeOld
import Derived.SizedLaws
import Derived.SevenTiedAt
import Derived.Handed
import Derived.LaidLaws
import Derived.Carry
set_option linter.unusedVariables false
set_option linter.unusedSimpArgs false
namespace Go.Proofs.YtkifdadhojbohaaDoor.Pr
open Go.Proofs.YtkifdadhojbohaaDoor
open Go.RowKit Go.Proofs.YtkifdadhojbohaaDoorW.PrintWords Go.Proofs.YtkifdadhojbohaaDoorW.PrintLast Go.Proofs.YtkifdadhojbohaaDoorW.PrintMore
attribute [local go_sem] max2_int min2_int max_two min_two max_three min_three max_four min_four   -- for this text's walks alone
set_option linter.unusedVariables false
set_option linter.unusedSimpArgs false
/-! ### salchowref10_room: function 72 -/
mutual
def salchowref10_room.l0 : Nat → List (S41) → Int → Int → Option (Int)
 | 0, _, _, _ => none
 | k + 1, x0, x1, x5 => if x5 < (x0.length : Int) then (salchowref10_room.j1 k x0 x1 x5 (decide (x1 ≥ 0))) else (salchowref10_room.j1 k x0 x1 x5 false)
def salchowref10_room.j1 : Nat → List (S41) → Int → Int → Bool → Option (Int)
 | 0, _, _, _, _ => none
 | k + 1, x0, x1, x5, x14 => if x14 = true then (if 0 ≤ x5 then (if x5 < (x0.length : Int) then (if (((rd_T41 x0 x5).f1).length : Int) > (wrap64 (x1 - 1)) then (salchowref10_room.j2 k x0 x1 x5 true) else (salchowref10_room.j2 k x0 x1 x5 (decide ((((rd_T41 x0 x5).f0).size : Int) > 200)))) else (none)) else (none)) else (some x1)
def salchowref10_room.j2 : Nat → List (S41) → Int → Int → Bool → Option (Int)
 | 0, _, _, _, _ => none
 | k + 1, x0, x1, x5, x34 => if x34 = true then (some (-1)) else (if 0 ≤ x5 then (if x5 < (x0.length : Int) then (salchowref10_room.l1 k x0 (wrap64 (x1 - (wrap64 (1 + (((rd_T41 x0 x5).f1).length : Int))))) x5 0) else (none)) else (none))
def salchowref10_room.l1 : Nat → List (S41) → Int → Int → Int → Option (Int)
 | 0, _, _, _, _ => none
 | k + 1, x0, x1, x5, x6 => if 0 ≤ x5 then (if x5 < (x0.length : Int) then (if x6 < (((rd_T41 x0 x5).f1).length : Int) then (if 0 ≤ x6 then (if (((rd_T46 ((rd_T41 x0 x5).f1) x6).f1).size : Int) > 200 then (some (-1)) else (salchowref10_room.l1 k x0 x1 x5 (wrap64 (x6 + 1)))) else (none)) else ((salchowref10_room.f k ((rd_T41 x0 x5).f3) x1).bind fun t571 => (salchowref10_room.l0 k x0 t571 (wrap64 (x5 + 1))))) else (none)) else (none)
def salchowref10_room.f : Nat → List (S41) → Int → Option (Int)
 | 0, _, _ => none
 | k + 1, l0, a1 => salchowref10_room.l0 k l0 a1 0
end
theorem salchowref10_room.mono_l : ∀ k, (∀ y0 y1, LeO (salchowref10_room.f k y0 y1) (salchowref10_room.f (k + 1) y0 y1)) ∧ (∀ y0 y1 y2, LeO (salchowref10_room.l0 k y0 y1 y2) (salchowref10_room.l0 (k + 1) y0 y1 y2)) ∧ (∀ y0 y1 y2 y3, LeO (salchowref10_room.j1 k y0 y1 y2 y3) (salchowref10_room.j1 (k + 1) y0 y1 y2 y3)) ∧ (∀ y0 y1 y2 y3, LeO (salchowref10_room.j2 k y0 y1 y2 y3) (salchowref10_room.j2 (k + 1) y0 y1 y2 y3)) ∧ (∀ y0 y1 y2 y3, LeO (salchowref10_room.l1 k y0 y1 y2 y3) (salchowref10_room.l1 (k + 1) y0 y1 y2 y3))
 | 0 => ⟨fun _ _ r h => by simp [salchowref10_room.f] at h, fun _ _ _ r h => by simp [salchowref10_room.l0] at h, fun _ _ _ _ r h => by simp [salchowref10_room.j1] at h, fun _ _ _ _ r h => by simp [salchowref10_room.j2] at h, fun _ _ _ _ r h => by simp [salchowref10_room.l1] at h⟩
 | k + 1 => by
  obtain ⟨ih0, ih1, ih2, ih3, ih4⟩ := salchowref10_room.mono_l k
  refine ⟨?_, ?_, ?_, ?_, ?_⟩
  ·
   intro y0 y1
   unfold salchowref10_room.f
   repeat' first
   | (with_reducible exact LeO.refl _)
   | exact ih0 _ _
   | exact ih1 _ _ _
   | exact ih2 _ _ _ _
   | exact ih3 _ _ _ _
   | exact ih4 _ _ _ _
   | exact LeO.none _
   | refine LeO.ite ?_ ?_
   | refine LeO.bind ?_ (fun _ => ?_)
  ·
   intro y0 y1 y2
   unfold salchowref10_room.l0
   repeat' first
   | (with_reducible exact LeO.refl _)
   | exact ih0 _ _
   | exact ih1 _ _ _
   | exact ih2 _ _ _ _
   | exact ih3 _ _ _ _
   | exact ih4 _ _ _ _
   | exact LeO.none _
   | refine LeO.ite ?_ ?_
   | refine LeO.bind ?_ (fun _ => ?_)
  ·
   intro y0 y1 y2 y3
   unfold salchowref10_room.j1
   repeat' first
   | (with_reducible exact LeO.refl _)
   | exact ih0 _ _
   | exact ih1 _ _ _
   | exact ih2 _ _ _ _
   | exact ih3 _ _ _ _
   | exact ih4 _ _ _ _
   | exact LeO.none _
   | refine LeO.ite ?_ ?_
   | refine LeO.bind ?_ (fun _ => ?_)
  ·
   intro y0 y1 y2 y3
   unfold salchowref10_room.j2
   repeat' first
   | (with_reducible exact LeO.refl _)
   | exact ih0 _ _
   | exact ih1 _ _ _
   | exact ih2 _ _ _ _
   | exact ih3 _ _ _ _
   | exact ih4 _ _ _ _
   | exact LeO.none _
   | refine LeO.ite ?_ ?_
   | refine LeO.bind ?_ (fun _ => ?_)
  ·
   intro y0 y1 y2 y3
   unfold salchowref10_room.l1
   repeat' first
   | (with_reducible exact LeO.refl _)
   | exact ih0 _ _
   | exact ih1 _ _ _
   | exact ih2 _ _ _ _
   | exact ih3 _ _ _ _
   | exact ih4 _ _ _ _
   | exact LeO.none _
   | refine LeO.ite ?_ ?_
   | refine LeO.bind ?_ (fun _ => ?_)
theorem salchowref10_room.mono : ∀ a0 a1 k, LeO (salchowref10_room.f k a0 a1) (salchowref10_room.f (k + 1) a0 a1) := by
 intro a0 a1 k
 obtain ⟨ih0, ih1, ih2, ih3, ih4⟩ := salchowref10_room.mono_l k
 exact ih0 a0 a1
set_option maxHeartbeats 8000000 in
set_option maxRecDepth 100000 in
theorem salchowref10_room.calls (k : Nat) : ∀ (A0 : Option Addr) (c0 : Nat) (l0 : List (S41)) (a1 : Int) (r : Int) (w : World) (hr0 : Kd.C k41 w A0 l0.length l0) (hc0 : l0.length ≤ c0) (h : salchowref10_room.f k l0 a1 = some r),
  Calls Tryd.prog 72 #[.slice A0 l0.length c0, .int .i64 a1] w fun e w' => e = .returned (.int .i64 r) ∧ Drawn0 w w' := by
 induction k using Nat.strongRecOn with
 | _ k ih =>
 intro A0 c0 l0 a1 r w hr0 hc0 h
 cases k with
 | zero => exact absurd h (by simp [salchowref10_room.f])
 | succ k =>
 simp only [salchowref10_room.f] at h
 have HR0 := Aside0.mk hr0
 have HC0 := Aside0.mk hc0
 clear hr0 hc0
 have H : (salchowref10_room.l0 k l0 a1 0) = some r := h
 clear h
 have H' := Aside0.mk H
 clear H
 go_enter Tryd.func72, Tryd.ntmps72
 go_wp2
 go_loopg [1, 5] k (fun kq v1 v5 w' => ∃ (x1_1 : Int) (x5_1 : Int), v1 = .int .i64 x1_1 ∧ v5 = .int .i64 x5_1 ∧ Aside0 (salchowref10_room.l0 kq l0 x1_1 x5_1 = some r) ∧ Aside0 (kq ≤ k) ∧ Drawn0 w w')
 case atStart => exact ⟨(a1), (0), sr_, sr_, H', ⟨Nat.le_refl _⟩, by repeat (first | exact Drawn0.refl _ | apply Drawn0.step)⟩
 case round =>
  clear H'
  try clear p2
  obtain ⟨x1_1, x5_1, rfl, rfl, HA, HK1, ⟨m1, rfl⟩⟩ := hrel
  cases gk with
  | zero => exact absurd HA.out (by simp [salchowref10_room.l0])
  | succ k1 =>
   have H := HA.out
   clear HA
   simp only [salchowref10_room.l0] at H
   have HC3 := Aside0.mk H
   clear H
   go_upto_region 2 with (fail)
   go_cut [14] (fun v14 wc => ∃ (kq : Nat) (x14_2 : Bool), v14 = .bool x14_2 ∧ Aside0 (salchowref10_room.j1 kq l0 x1_1 x5_1 x14_2 = some r) ∧ Aside0 (kq ≤ k1) ∧ Drawn0 w wc)
   case first =>
    have H := HC3.out
    clear HC3
    by_cases c4 : x5_1 < (l0.length : Int)
    ·
     rw [if_pos c4] at H
     have c4b0 := decide_eq_true c4
     clear c4
     (first | rw [c4b0] | (simp only [i64_w, i32_w]; rw [c4b0]) | skip)
     have H' := Aside0.mk H
     clear H
     go_wp2
     go_meet
     case rel => exact ⟨_, (decide (x1_1 ≥ 0)), sr_, H', ⟨by have := HK1.out; first | omega | exact Nat.le_refl _⟩, by repeat (first | exact Drawn0.refl _ | apply Drawn0.step)⟩
    ·
     rw [if_neg c4] at H
     have c4b0 := decide_eq_false c4
     clear c4
     (first | rw [c4b0] | (simp only [i64_w, i32_w]; rw [c4b0]) | skip)
     have H' := Aside0.mk H
     clear H
     go_wp2
     go_meet
     case rel => exact ⟨_, (false), sr_, H', ⟨by have := HK1.out; first | omega | exact Nat.le_refl _⟩, by repeat (first | exact Drawn0.refl _ | apply Drawn0.step)⟩
   case rest =>
    clear HC3
    try clear p2
    try clear c4
    try clear c4b0
    try clear p2
    obtain ⟨kq, x14_2, rfl, HA, HJ2, ⟨mc2, rfl⟩⟩ := hcut
    cases kq with
    | zero => exact absurd HA.out (by simp [salchowref10_room.j1])
    | succ kj2 =>
     have H := HA.out
     clear HA
     simp only [salchowref10_room.j1] at H
     by_cases c5 : x14_2 = true
     ·
      subst c5
      have H1 : (if 0 ≤ x5_1 then (if x5_1 < (l0.length : Int) then (if (((rd_T41 l0 x5_1).f1).length : Int) > (wrap64 (x1_1 - 1)) then (salchowref10_room.j2 kj2 l0 x1_1 x5_1 true) else (salchowref10_room.j2 kj2 l0 x1_1 x5_1 (decide ((((rd_T41 l0 x5_1).f0).size : Int) > 200)))) else (none)) else (none)) = some r := by rw [if_pos rfl] at H; exact H
      clear H
      have H := H1
      clear H1
      have HC6 := Aside0.mk H
      clear H
      go_upto_region 4 with (fail)
      go_cut [34] (fun v34 wc => ∃ (kq : Nat) (x34_5 : Bool), v34 = .bool x34_5 ∧ Aside0 (salchowref10_room.j2 kq l0 x1_1 x5_1 x34_5 = some r) ∧ Aside0 (kq ≤ kj2) ∧ Drawn0 w wc)
      case first =>
       have H := HC6.out
       clear HC6
       by_cases c7 : 0 ≤ x5_1
       ·
        rw [if_pos c7] at H
        have c7b0 := decide_eq_true c7
        clear c7
        (first | rw [c7b0] | (simp only [i64_w, i32_w]; rw [c7b0]) | skip)
        by_cases c8 : x5_1 < (l0.length : Int)
        ·
         rw [if_pos c8] at H
         have c8b0 := decide_eq_true c8
         clear c8
         by_cases c9 : (((rd_T41 l0 x5_1).f1).length : Int) > (wrap64 (x1_1 - 1))
         ·
          rw [if_pos c9] at H
          have c9b0 := decide_eq_true c9
          clear c9
          have H' := Aside0.mk H
          clear H
          have p564 : 0 ≤ (x5_1 : Int) := dt_
          have q564 : x5_1 < (l0.length : Int) := dt_
          obtain ⟨ad564, A564_1, c564_1, A564_3, c564_3, e564, hx564_0, hx564_1, hx564_2, hx564_3, hx564_4, hl564_1, hi564_1, hl564_3, hi564_3⟩ := at_T41 HR0.out x5_1 p564 q564
          cases e564
          have HR564_1 := Aside0.mk hi564_1
          have HC564_1 := Aside0.mk hl564_1
          clear hi564_1 hl564_1
          have HR564_3 := Aside0.mk hi564_3
          have HC564_3 := Aside0.mk hl564_3
          clear hi564_3 hl564_3
          replace p564 := eq_true p564
          replace q564 := eq_true q564
          go_wp2
          go_meet
          case rel => exact ⟨_, (true), sr_, H', ⟨by have := HK1.out; have := HJ2.out; first | omega | exact Nat.le_refl _⟩, by repeat (first | exact Drawn0.refl _ | apply Drawn0.step)⟩
         ·
          rw [if_neg c9] at H
          have c9b0 := decide_eq_false c9
          clear c9
          have H' := Aside0.mk H
          clear H
          have p564 : 0 ≤ (x5_1 : Int) := dt_
          have q564 : x5_1 < (l0.length : Int) := dt_
          obtain ⟨ad564, A564_1, c564_1, A564_3, c564_3, e564, hx564_0, hx564_1, hx564_2, hx564_3, hx564_4, hl564_1, hi564_1, hl564_3, hi564_3⟩ := at_T41 HR0.out x5_1 p564 q564
          cases e564
          have HR564_1 := Aside0.mk hi564_1
          have HC564_1 := Aside0.mk hl564_1
          clear hi564_1 hl564_1
          have HR564_3 := Aside0.mk hi564_3
          have HC564_3 := Aside0.mk hl564_3
          clear hi564_3 hl564_3
          replace p564 := eq_true p564
          replace q564 := eq_true q564
          have p565 : 0 ≤ (x5_1 : Int) := dt_
          have q565 : x5_1 < (l0.length : Int) := dt_
          obtain ⟨ad565, A565_1, c565_1, A565_3, c565_3, e565, hx565_0, hx565_1, hx565_2, hx565_3, hx565_4, hl565_1, hi565_1, hl565_3, hi565_3⟩ := at_T41 HR0.out x5_1 p565 q565
          obtain rfl : ad564 = ad565 := (by injection e565)
          have HR565_1 := Aside0.mk hi565_1
          have HC565_1 := Aside0.mk hl565_1
          clear hi565_1 hl565_1
          have HR565_3 := Aside0.mk hi565_3
          have HC565_3 := Aside0.mk hl565_3
          clear hi565_3 hl565_3
          replace p565 := eq_true p565
          replace q565 := eq_true q565
          have ea_ := Option.some.inj (hx564_1.symm.trans hx565_1)
          injection ea_ with ea_ en_ ec_
          subst ea_
          subst ec_
          clear en_
          have ea_ := Option.some.inj (hx564_3.symm.trans hx565_3)
          injection ea_ with ea_ en_ ec_
          subst ea_
          subst ec_
          clear en_
          go_wp2
          go_meet
          case rel => exact ⟨_, (decide ((((rd_T41 l0 x5_1).f0).size : Int) > 200)), sr_, H', ⟨by have := HK1.out; have := HJ2.out; first | omega | exact Nat.le_refl _⟩, by repeat (first | exact Drawn0.refl _ | apply Drawn0.step)⟩
        ·
         rw [if_neg c8] at H
         exact absurd H (by simp)
       ·
        rw [if_neg c7] at H
        exact absurd H (by simp)
      case rest =>
       clear HC6
       try clear c2
       try clear p2
       try clear c4
       try clear c4b0
       try clear c5
       try clear p5
       try clear q5
       try clear hx5
       try clear p6
       try clear c7
       try clear c7b0
       try clear c8
       try clear c8b0
       try clear c9
       try clear c9b0
       try clear hx564_0
       try clear hx564_1
       try clear hx564_2
       try clear hx564_3
       try clear hx564_4
       try clear hx565_0
       try clear hx565_1
       try clear hx565_2
       try clear hx565_3
       try clear hx565_4
       try clear p2
       try clear p564
       try clear p565
       try clear q564
       try clear q565
       obtain ⟨kq, x34_5, rfl, HA, HJ5, ⟨mc5, rfl⟩⟩ := hcut
       cases kq with
       | zero => exact absurd HA.out (by simp [salchowref10_room.j2])
       | succ kj5 =>
        have H := HA.out
        clear HA
        simp only [salchowref10_room.j2] at H
        by_cases c10 : x34_5 = true
        ·
         subst c10
         have H1 : (some (-1)) = some r := by rw [if_pos rfl] at H; exact H
         clear H
         have H := H1
         clear H1
         obtain rfl := Option.some.inj H
         go_wp2
         go_ret
         exact ⟨by first | rfl | (simp; done) | (simp [*]; done) | (simp <;> rfl), by repeat (first | exact Drawn0.refl _ | apply Drawn0.step)⟩
        ·
         replace c10 := Bool.eq_false_iff.mpr c10
         subst c10
         have H1 : (if 0 ≤ x5_1 then (if x5_1 < (l0.length : Int) then (salchowref10_room.l1 kj5 l0 (wrap64 (x1_1 - (wrap64 (1 + (((rd_T41 l0 x5_1).f1).length : Int))))) x5_1 0) else (none)) else (none)) = some r := by rw [if_neg (show ¬ (false = true) by decide)] at H; exact H
         clear H
         have H := H1
         clear H1
         by_cases c11 : 0 ≤ x5_1
         ·
          rw [if_pos c11] at H
          have c11b0 := decide_eq_true c11
          clear c11
          by_cases c12 : x5_1 < (l0.length : Int)
          ·
           rw [if_pos c12] at H
           have c12b0 := decide_eq_true c12
           clear c12
           have H' := Aside0.mk H
           clear H
           have p566 : 0 ≤ (x5_1 : Int) := dt_
           have q566 : x5_1 < (l0.length : Int) := dt_
           obtain ⟨ad566, A566_1, c566_1, A566_3, c566_3, e566, hx566_0, hx566_1, hx566_2, hx566_3, hx566_4, hl566_1, hi566_1, hl566_3, hi566_3⟩ := at_T41 HR0.out x5_1 p566 q566
           cases e566
           have HR566_1 := Aside0.mk hi566_1
           have HC566_1 := Aside0.mk hl566_1
           clear hi566_1 hl566_1
           have HR566_3 := Aside0.mk hi566_3
           have HC566_3 := Aside0.mk hl566_3
           clear hi566_3 hl566_3
           replace p566 := eq_true p566
           replace q566 := eq_true q566
           go_wp2
           go_loopg [6] kj5 (fun kq v6 w' => ∃ (x6_4 : Int), v6 = .int .i64 x6_4 ∧ Aside0 (salchowref10_room.l1 kq l0 (wrap64 (x1_1 - (wrap64 (1 + (((rd_T41 l0 x5_1).f1).length : Int))))) x5_1 x6_4 = some r) ∧ Aside0 (kq ≤ kj5) ∧ Drawn0 w w')
           case atStart => exact ⟨(0), sr_, H', ⟨Nat.le_refl _⟩, by repeat (first | exact Drawn0.refl _ | apply Drawn0.step)⟩
           case round =>
            clear H'
            try clear c1
            try clear c2
            try clear p2
            try clear c4
            try clear c4b0
            try clear c5
            try clear p5
            try clear q5
            try clear hx5
            try clear p6
            try clear c7
            try clear c7b0
            try clear c8
            try clear c8b0
            try clear c9
            try clear c9b0
            try clear c10
            try clear c11
            try clear c11b0
            try clear c12
            try clear c12b0
            try clear hx564_0
            try clear hx564_1
            try clear hx564_2
            try clear hx564_3
            try clear hx564_4
            try clear hx565_0
            try clear hx565_1
            try clear hx565_2
            try clear hx565_3
            try clear hx565_4
            try clear hx566_0
            try clear hx566_1
            try clear hx566_2
            try clear hx566_3
            try clear hx566_4
            try clear p2
            try clear p5
            try clear p564
            try clear p565
            try clear p566
            try clear p6
            try clear q5
            try clear q564
            try clear q565
            try clear q566
            obtain ⟨x6_4, rfl, HA, HK4, ⟨m4, rfl⟩⟩ := hrel
            cases gk with
            | zero => exact absurd HA.out (by simp [salchowref10_room.l1])
            | succ k4 =>
             have H := HA.out
             clear HA
             simp only [salchowref10_room.l1] at H
             by_cases c13 : 0 ≤ x5_1
             ·
              rw [if_pos c13] at H
              have c13b0 := decide_eq_true c13
              clear c13
              by_cases c14 : x5_1 < (l0.length : Int)
              ·
               rw [if_pos c14] at H
               have c14b0 := decide_eq_true c14
               clear c14
               by_cases c15 : x6_4 < (((rd_T41 l0 x5_1).f1).length : Int)
               ·
                rw [if_pos c15] at H
                have c15b0 := decide_eq_true c15
                clear c15
                by_cases c16 : 0 ≤ x6_4
                ·
                 rw [if_pos c16] at H
                 have c16b0 := decide_eq_true c16
                 clear c16
                 by_cases c17 : (((rd_T46 ((rd_T41 l0 x5_1).f1) x6_4).f1).size : Int) > 200
                 ·
                  rw [if_pos c17] at H
                  have c17b0 := decide_eq_true c17
                  have c17b1 : decide (200 < ((rd_T46 ((rd_T41 l0 x5_1).f1) x6_4).f1).size) = true := decide_eq_true (by omega)
                  clear c17
                  obtain rfl := Option.some.inj H
                  have p567 : 0 ≤ (x5_1 : Int) := dt_
                  have q567 : x5_1 < (l0.length : Int) := dt_
                  obtain ⟨ad567, A567_1, c567_1, A567_3, c567_3, e567, hx567_0, hx567_1, hx567_2, hx567_3, hx567_4, hl567_1, hi567_1, hl567_3, hi567_3⟩ := at_T41 HR0.out x5_1 p567 q567
                  obtain rfl : ad566 = ad567 := (by injection e567)
                  have HR567_1 := Aside0.mk hi567_1
                  have HC567_1 := Aside0.mk hl567_1
                  clear hi567_1 hl567_1
                  have HR567_3 := Aside0.mk hi567_3
                  have HC567_3 := Aside0.mk hl567_3
                  clear hi567_3 hl567_3
                  replace p567 := eq_true p567
                  replace q567 := eq_true q567
                  have p568 : 0 ≤ (x5_1 : Int) := dt_
                  have q568 : x5_1 < (l0.length : Int) := dt_
                  obtain ⟨ad568, A568_1, c568_1, A568_3, c568_3, e568, hx568_0, hx568_1, hx568_2, hx568_3, hx568_4, hl568_1, hi568_1, hl568_3, hi568_3⟩ := at_T41 HR0.out x5_1 p568 q568
                  obtain rfl : ad566 = ad568 := (by injection e568)
                  have HR568_1 := Aside0.mk hi568_1
                  have HC568_1 := Aside0.mk hl568_1
                  clear hi568_1 hl568_1
                  have HR568_3 := Aside0.mk hi568_3
                  have HC568_3 := Aside0.mk hl568_3
                  clear hi568_3 hl568_3
                  replace p568 := eq_true p568
                  replace q568 := eq_true q568
                  have ea_ := Option.some.inj (hx567_1.symm.trans hx568_1)
                  injection ea_ with ea_ en_ ec_
                  subst ea_
                  subst ec_
                  clear en_
                  have ea_ := Option.some.inj (hx567_3.symm.trans hx568_3)
                  injection ea_ with ea_ en_ ec_
                  subst ea_
                  subst ec_
                  clear en_
                  have p569 : 0 ≤ (x6_4 : Int) := dt_
                  have q569 : x6_4 < (((rd_T41 l0 x5_1).f1).length : Int) := dt_
                  obtain ⟨ad569, e569, hx569_0, hx569_1, hx569_2, hx569_3⟩ := at_T46 HR568_1.out x6_4 p569 q569
                  cases e569
                  replace p569 := eq_true p569
                  replace q569 := eq_true q569
                  go_wp2
                  go_ret
                  exact ⟨by first | rfl | (simp; done) | (simp [*]; done) | (simp <;> rfl), by repeat (first | exact Drawn0.refl _ | apply Drawn0.step)⟩
                 ·
                  rw [if_neg c17] at H
                  have c17b0 := decide_eq_false c17
                  have c17b1 : decide (200 < ((rd_T46 ((rd_T41 l0 x5_1).f1) x6_4).f1).size) = false := decide_eq_false (by omega)
                  clear c17
                  have H' := Aside0.mk H
                  clear H
                  have p567 : 0 ≤ (x5_1 : Int) := dt_
                  have q567 : x5_1 < (l0.length : Int) := dt_
                  obtain ⟨ad567, A567_1, c567_1, A567_3, c567_3, e567, hx567_0, hx567_1, hx567_2, hx567_3, hx567_4, hl567_1, hi567_1, hl567_3, hi567_3⟩ := at_T41 HR0.out x5_1 p567 q567
                  obtain rfl : ad566 = ad567 := (by injection e567)
                  have HR567_1 := Aside0.mk hi567_1
                  have HC567_1 := Aside0.mk hl567_1
                  clear hi567_1 hl567_1
                  have HR567_3 := Aside0.mk hi567_3
                  have HC567_3 := Aside0.mk hl567_3
                  clear hi567_3 hl567_3
                  replace p567 := eq_true p567
                  replace q567 := eq_true q567
                  have p568 : 0 ≤ (x5_1 : Int) := dt_
                  have q568 : x5_1 < (l0.length : Int) := dt_
                  obtain ⟨ad568, A568_1, c568_1, A568_3, c568_3, e568, hx568_0, hx568_1, hx568_2, hx568_3, hx568_4, hl568_1, hi568_1, hl568_3, hi568_3⟩ := at_T41 HR0.out x5_1 p568 q568
                  obtain rfl : ad566 = ad568 := (by injection e568)
                  have HR568_1 := Aside0.mk hi568_1
                  have HC568_1 := Aside0.mk hl568_1
                  clear hi568_1 hl568_1
                  have HR568_3 := Aside0.mk hi568_3
                  have HC568_3 := Aside0.mk hl568_3
                  clear hi568_3 hl568_3
                  replace p568 := eq_true p568
                  replace q568 := eq_true q568
                  have ea_ := Option.some.inj (hx567_1.symm.trans hx568_1)
                  injection ea_ with ea_ en_ ec_
                  subst ea_
                  subst ec_
                  clear en_
                  have ea_ := Option.some.inj (hx567_3.symm.trans hx568_3)
                  injection ea_ with ea_ en_ ec_
                  subst ea_
                  subst ec_
                  clear en_
                  have p569 : 0 ≤ (x6_4 : Int) := dt_
                  have q569 : x6_4 < (((rd_T41 l0 x5_1).f1).length : Int) := dt_
                  obtain ⟨ad569, e569, hx569_0, hx569_1, hx569_2, hx569_3⟩ := at_T46 HR568_1.out x6_4 p569 q569
                  cases e569
                  replace p569 := eq_true p569
                  replace q569 := eq_true q569
                  go_wp2
                  go_roundg k4
                  case measure => have := HK1.out; have := HJ2.out; have := HJ5.out; have := HK4.out; omega
                  case rel => exact ⟨(wrap64 (x6_4 + 1)), sr_, H', ⟨by have := HK1.out; have := HJ2.out; have := HJ5.out; have := HK4.out; omega⟩, by repeat (first | exact Drawn0.refl _ | apply Drawn0.step)⟩
                ·
                 rw [if_neg c16] at H
                 exact absurd H (by simp)
               ·
                rw [if_neg c15] at H
                have c15b0 := decide_eq_false c15
                clear c15
                replace H := Option.bind_eq_some_iff.mp H
                obtain ⟨t571, A180, H⟩ := H
                (try dsimp only at H)
                have A18 := Aside0.mk A180
                clear A180
                have H' := Aside0.mk H
                clear H
                have p567 : 0 ≤ (x5_1 : Int) := dt_
                have q567 : x5_1 < (l0.length : Int) := dt_
                obtain ⟨ad567, A567_1, c567_1, A567_3, c567_3, e567, hx567_0, hx567_1, hx567_2, hx567_3, hx567_4, hl567_1, hi567_1, hl567_3, hi567_3⟩ := at_T41 HR0.out x5_1 p567 q567
                obtain rfl : ad566 = ad567 := (by injection e567)
                have HR567_1 := Aside0.mk hi567_1
                have HC567_1 := Aside0.mk hl567_1
                clear hi567_1 hl567_1
                have HR567_3 := Aside0.mk hi567_3
                have HC567_3 := Aside0.mk hl567_3
                clear hi567_3 hl567_3
                replace p567 := eq_true p567
                replace q567 := eq_true q567
                have p570 : 0 ≤ (x5_1 : Int) := dt_
                have q570 : x5_1 < (l0.length : Int) := dt_
                obtain ⟨ad570, A570_1, c570_1, A570_3, c570_3, e570, hx570_0, hx570_1, hx570_2, hx570_3, hx570_4, hl570_1, hi570_1, hl570_3, hi570_3⟩ := at_T41 HR0.out x5_1 p570 q570
                obtain rfl : ad566 = ad570 := (by injection e570)
                have HR570_1 := Aside0.mk hi570_1
                have HC570_1 := Aside0.mk hl570_1
                clear hi570_1 hl570_1
                have HR570_3 := Aside0.mk hi570_3
                have HC570_3 := Aside0.mk hl570_3
                clear hi570_3 hl570_3
                replace p570 := eq_true p570
                replace q570 := eq_true q570
                have ea_ := Option.some.inj (hx567_1.symm.trans hx570_1)
                injection ea_ with ea_ en_ ec_
                subst ea_
                subst ec_
                clear en_
                have ea_ := Option.some.inj (hx567_3.symm.trans hx570_3)
                injection ea_ with ea_ en_ ec_
                subst ea_
                subst ec_
                clear en_
                go_wp2_with (first | ((with_reducible refine gate_callee (f := 72) rfl ?_); refine goesL_ (some 71) rfl rfl Tryd.func72 (by kernel_rfl) rfl #[.slice A567_3 ((rd_T41 l0 x5_1).f3).length c567_3, .int .i64 (wrap64 (x1_1 - (wrap64 (1 + (((rd_T41 l0 x5_1).f1).length : Int)))))] rfl ga_ ?_; (with_reducible refine (ih k4 (by have := HK1.out; have := HJ2.out; have := HJ5.out; have := HK4.out; omega) _ _ ((rd_T41 l0 x5_1).f3) (wrap64 (x1_1 - (wrap64 (1 + (((rd_T41 l0 x5_1).f1).length : Int))))) t571 _ ?side1 ?side2 A18.out).mono ?_); (case side1 => repeat (first | exact HR570_3.out | (with_reducible refine Kd.C_alloc ?_ _) | (with_reducible refine Kd.C_drewN ?_ _) | (with_reducible refine Kd.C_drew ?_))); (case side2 => exact HC570_3.out); rintro e w' ⟨rfl, ⟨nd, rfl⟩⟩; refine ⟨_, rfl, ?_⟩))
                go_roundg k4
                case measure => have := HK1.out; have := HJ2.out; have := HJ5.out; have := HK4.out; omega
                case rel => exact ⟨(t571), (wrap64 (x5_1 + 1)), sr_, sr_, H', ⟨by have := HK1.out; have := HJ2.out; have := HJ5.out; have := HK4.out; omega⟩, by repeat (first | exact Drawn0.refl _ | apply Drawn0.step)⟩
              ·
               rw [if_neg c14] at H
               exact absurd H (by simp)
             ·
              rw [if_neg c13] at H
              exact absurd H (by simp)
          ·
           rw [if_neg c12] at H
           exact absurd H (by simp)
         ·
          rw [if_neg c11] at H
          exact absurd H (by simp)
     ·
      replace c5 := Bool.eq_false_iff.mpr c5
      subst c5
      have H1 : (some x1_1) = some r := by rw [if_neg (show ¬ (false = true) by decide)] at H; exact H
      clear H
      have H := H1
      clear H1
      obtain rfl := Option.some.inj H
      go_wp2
      go_ret
      exact ⟨by first | rfl | (simp; done) | (simp [*]; done) | (simp <;> rfl), by repeat (first | exact Drawn0.refl _ | apply Drawn0.step)⟩
/-! ### salchowref10_Small: function 45 -/
def salchowref10_Small.f (k : Nat) (l0 : List (S41)) (a1 : Int) : Option (Bool) := (salchowref10_room.f k l0 a1).bind fun t572 => (some (decide (t572 ≥ 0)))
theorem salchowref10_Small.mono : ∀ a0 a1 k, LeO (salchowref10_Small.f k a0 a1) (salchowref10_Small.f (k + 1) a0 a1) := by
 intro a0 a1 k
 unfold salchowref10_Small.f
 repeat' first
   | (with_reducible exact LeO.refl _)
   | exact salchowref10_room.mono _ _ _
   | exact LeO.none _
   | refine LeO.ite ?_ ?_
   | refine LeO.bind ?_ (fun _ => ?_)
set_option maxHeartbeats 8000000 in
set_option maxRecDepth 100000 in
theorem salchowref10_Small.calls (k : Nat) (A0 : Option Addr) (c0 : Nat) (l0 : List (S41)) (a1 : Int) (r : Bool) (w : World) (hr0 : Kd.C k41 w A0 l0.length l0) (hc0 : l0.length ≤ c0) (h : salchowref10_Small.f k l0 a1 = some r) :
  Calls Tryd.prog 45 #[.slice A0 l0.length c0, .int .i64 a1] w fun e w' => e = .returned (.bool r) ∧ Drawn0 w w' := by
 have HR0 := Aside0.mk hr0
 have HC0 := Aside0.mk hc0
 clear hr0 hc0
 have H : ((salchowref10_room.f k l0 a1).bind fun t572 => (some (decide (t572 ≥ 0)))) = some r := h
 clear h
 replace H := Option.bind_eq_some_iff.mp H
 obtain ⟨t572, A30, H⟩ := H
 (try dsimp only at H)
 have A3 := Aside0.mk A30
 clear A30
 obtain rfl := Option.some.inj H
 go_enter Tryd.func45, Tryd.ntmps45
 go_wp2_with (first | ((with_reducible refine gate_callee (f := 72) rfl ?_); refine goesL_ (some 7) rfl rfl Tryd.func72 (by kernel_rfl) rfl #[.slice A0 l0.length c0, .int .i64 a1] rfl ga_ ?_; (with_reducible refine (salchowref10_room.calls k _ _ l0 a1 t572 _ ?side1 ?side2 A3.out).mono ?_); (case side1 => repeat (first | exact HR0.out | (with_reducible refine Kd.C_alloc ?_ _) | (with_reducible refine Kd.C_drewN ?_ _) | (with_reducible refine Kd.C_drew ?_))); (case side2 => exact HC0.out); rintro e w' ⟨rfl, ⟨nd, rfl⟩⟩; refine ⟨_, rfl, ?_⟩))
 go_ret
 exact ⟨by first | rfl | (simp; done) | (simp [*]; done) | (simp <;> rfl), by repeat (first | exact Drawn0.refl _ | apply Drawn0.step)⟩
/-! ### salchowlaw10_spelled: function 46 -/
def salchowlaw10_spelled.l0 : Nat → List (S46) → ByteArray → ByteArray → Int → Option (ByteArray × Bool)
 | 0, _, _, _, _ => none
 | k + 1, x0, x1, x6, x7 => if x7 < (x0.length : Int) then (if 0 ≤ x7 then ((lexer_Spell.f k ((rd_T46 x0 x7).f0) ((rd_T46 x0 x7).f1) ((rd_T46 x0 x7).f2) ((rd_T46 x0 x7).f3)).bind fun bt574 => (if bt574.2 = 0 then (if bt574.1.size + x1.size ≤ 9223372036854775807 then (if x6.size + (bt574.1 ++ x1).size ≤ 9223372036854775807 then (salchowlaw10_spelled.l0 k x0 x1 (x6 ++ (bt574.1 ++ x1)) (wrap64 (x7 + 1))) else (none)) else (none)) else (some ((⟨#[]⟩ : ByteArray), false)))) else (none)) else (some (x6, true))
def salchowlaw10_spelled.f (k : Nat) (l0 : List (S46)) (a1 : ByteArray) : Option (ByteArray × Bool) := salchowlaw10_spelled.l0 k l0 a1 (⟨#[]⟩ : ByteArray) 0
theorem salchowlaw10_spelled.mono_l : ∀ k, (∀ y0 y1 y2 y3, LeO (salchowlaw10_spelled.l0 k y0 y1 y2 y3) (salchowlaw10_spelled.l0 (k + 1) y0 y1 y2 y3))
 | 0 => fun _ _ _ _ r h => by simp [salchowlaw10_spelled.l0] at h
 | k + 1 => by
  have ih0 := salchowlaw10_spelled.mono_l k
  ·
   intro y0 y1 y2 y3
   unfold salchowlaw10_spelled.l0
   repeat' first
   | (with_reducible exact LeO.refl _)
   | exact ih0 _ _ _ _
   | exact lexer_Spell.mono _ _ _ _ _
   | exact LeO.none _
   | refine LeO.ite ?_ ?_
   | refine LeO.bind ?_ (fun _ => ?_)
theorem salchowlaw10_spelled.mono : ∀ a0 a1 k, LeO (salchowlaw10_spelled.f k a0 a1) (salchowlaw10_spelled.f (k + 1) a0 a1) := by
 intro a0 a1 k
 have ih0 := salchowlaw10_spelled.mono_l k
 unfold salchowlaw10_spelled.f
 repeat' first
   | (with_reducible exact LeO.refl _)
   | exact ih0 _ _ _ _
   | exact lexer_Spell.mono _ _ _ _ _
   | exact LeO.none _
   | refine LeO.ite ?_ ?_
   | refine LeO.bind ?_ (fun _ => ?_)
set_option maxHeartbeats 8000000 in
set_option maxRecDepth 100000 in
theorem salchowlaw10_spelled.calls (k : Nat) (A0 : Option Addr) (c0 : Nat) (l0 : List (S46)) (a1 : ByteArray) (r1 : ByteArray) (r2 : Bool) (w : World) (hG : Gl w) (hr0 : Kd.C k46 w A0 l0.length l0) (hc0 : l0.length ≤ c0) (h : salchowlaw10_spelled.f k l0 a1 = some (r1, r2)) :
  Calls Tryd.prog 46 #[.slice A0 l0.length c0, .string a1] w fun e w' => e = .returned (.tuple #[.string r1, .bool r2]) ∧ Below w.heap.size w w' := by
 have hu46 := Tryd.underlying46
 have HR0 := Aside0.mk hr0
 have HC0 := Aside0.mk hc0
 clear hr0 hc0
 have HB := Aside0.mk (Below.refl w.heap.size w)
 have H : (salchowlaw10_spelled.l0 k l0 a1 (⟨#[]⟩ : ByteArray) 0) = some (r1, r2) := h
 clear h
 have H' := Aside0.mk H
 clear H
 go_enter Tryd.func46, Tryd.ntmps46
 go_wp2
 go_loopg [6, 7] k (fun kq v6 v7 w' => ∃ (x6_1 : ByteArray) (x7_1 : Int), v6 = .string x6_1 ∧ v7 = .int .i64 x7_1 ∧ Aside0 (salchowlaw10_spelled.l0 kq l0 a1 x6_1 x7_1 = some (r1, r2)) ∧ Aside0 (kq ≤ k) ∧ Aside0 (Below w.heap.size w w'))
 case atStart => exact ⟨((⟨#[]⟩ : ByteArray)), (0), sr_, sr_, H', ⟨Nat.le_refl _⟩, ⟨bl_ HB.out⟩⟩
 case round =>
  clear H'
  try clear p2
  obtain ⟨x6_1, x7_1, rfl, rfl, HA, HK1, HB⟩ := hrel
  cases gk with
  | zero => exact absurd HA.out (by simp [salchowlaw10_spelled.l0])
  | succ k1 =>
   have H := HA.out
   clear HA
   simp only [salchowlaw10_spelled.l0] at H
   by_cases c3 : x7_1 < (l0.length : Int)
   ·
    rw [if_pos c3] at H
    have c3b0 := decide_eq_true c3
    clear c3
    by_cases c4 : 0 ≤ x7_1
    ·
     rw [if_pos c4] at H
     have c4b0 := decide_eq_true c4
     clear c4
     replace H := Option.bind_eq_some_iff.mp H
     obtain ⟨⟨t574, t575⟩, A50, H⟩ := H
     (try dsimp only at H)
     have A5 := Aside0.mk A50
     clear A50
     by_cases c6 : t575 = 0
     ·
      rw [if_pos c6] at H
      have c6b0 := beq_iff_eq.mpr c6
      have c6b1 := bne_eq_false_iff_eq.mpr c6
      clear c6
      by_cases c7 : t574.size + a1.size ≤ 9223372036854775807
      ·
       rw [if_pos c7] at H
       have c7b0 := eq_true c7
       have c7b1 := decide_eq_true c7
       try have c7b2 : (9223372036854775807 < t574.size + a1.size) = False := eq_false (Nat.not_lt.2 c7)
       by_cases c8 : x6_1.size + (t574 ++ a1).size ≤ 9223372036854775807
       ·
        rw [if_pos c8] at H
        have c8b0 := eq_true c8
        have c8b1 := decide_eq_true c8
        (try (have c8b3 : (9223372036854775807 < x6_1.size + t574.size + a1.size) = False := eq_false (Nat.not_lt.2 (by have h_ := c8; simp only [ByteArray.size_append] at h_; exact h_))))
        (try (have c8b4 : (x6_1.size + t574.size + a1.size ≤ 9223372036854775807) = True := eq_true (by have h_ := c8; simp only [ByteArray.size_append] at h_; exact h_)))
        try have c8b2 : (9223372036854775807 < x6_1.size + (t574 ++ a1).size) = False := eq_false (Nat.not_lt.2 c8)
        have H' := Aside0.mk H
        clear H
        have p573 : 0 ≤ (x7_1 : Int) := dt_
        have q573 : x7_1 < (l0.length : Int) := dt_
        obtain ⟨ad573, e573, hx573_0, hx573_1, hx573_2, hx573_3⟩ := at_T46 HR0.out x7_1 p573 q573
        cases e573
        replace hx573_0 := pw_cell_below HB.out hx573_0
        replace hx573_1 := pw_cell_below HB.out hx573_1
        replace hx573_2 := pw_cell_below HB.out hx573_2
        replace hx573_3 := pw_cell_below HB.out hx573_3
        replace p573 := eq_true p573
        replace q573 := eq_true q573
        go_wp2_with (first | ((with_reducible refine gate_callee (f := 35) rfl ?_); refine goesL_ (some 21) rfl rfl Tryd.func35 (by kernel_rfl) rfl #[.agg #[.int .i64 ((rd_T46 l0 x7_1).f0), .string ((rd_T46 l0 x7_1).f1), .int .i64 ((rd_T46 l0 x7_1).f2), .int .i64 ((rd_T46 l0 x7_1).f3)]] rfl ga_ ?_; (with_reducible refine (lexer_Spell.calls k1 ((rd_T46 l0 x7_1).f0) ((rd_T46 l0 x7_1).f1) ((rd_T46 l0 x7_1).f2) ((rd_T46 l0 x7_1).f3) t574 t575 _ ?side1 A5.out).mono ?_); (case side1 => exact Gl.below hG (bl_ HB.out)); rintro e w9 ⟨rfl, hb⟩; refine ⟨_, rfl, ?_⟩; refine cut1_ (below_step (bl_ HB.out) hb) ?_; clear HB; intro HB; (try clear hb); (try clear hb2); (try clear hk); (try clear hi)))
        go_roundg k1
        case measure => have := HK1.out; omega
        case rel => exact ⟨(x6_1 ++ (t574 ++ a1)), (wrap64 (x7_1 + 1)), sr_, sr_, H', ⟨by have := HK1.out; omega⟩, ⟨bl_ HB.out⟩⟩
       ·
        rw [if_neg c8] at H
        exact absurd H (by simp)
      ·
       rw [if_neg c7] at H
       exact absurd H (by simp)
     ·
      rw [if_neg c6] at H
      have c6b0 := beq_eq_false_iff_ne.mpr c6
      have c6b1 := bne_iff_ne.mpr c6
      simp only [Option.some.injEq, Prod.mk.injEq] at H
      obtain ⟨rfl, rfl⟩ := H
      have p573 : 0 ≤ (x7_1 : Int) := dt_
      have q573 : x7_1 < (l0.length : Int) := dt_
      obtain ⟨ad573, e573, hx573_0, hx573_1, hx573_2, hx573_3⟩ := at_T46 HR0.out x7_1 p573 q573
      cases e573
      replace hx573_0 := pw_cell_below HB.out hx573_0
      replace hx573_1 := pw_cell_below HB.out hx573_1
      replace hx573_2 := pw_cell_below HB.out hx573_2
      replace hx573_3 := pw_cell_below HB.out hx573_3
      replace p573 := eq_true p573
      replace q573 := eq_true q573
      go_wp2_with (first | ((with_reducible refine gate_callee (f := 35) rfl ?_); refine goesL_ (some 21) rfl rfl Tryd.func35 (by kernel_rfl) rfl #[.agg #[.int .i64 ((rd_T46 l0 x7_1).f0), .string ((rd_T46 l0 x7_1).f1), .int .i64 ((rd_T46 l0 x7_1).f2), .int .i64 ((rd_T46 l0 x7_1).f3)]] rfl ga_ ?_; (with_reducible refine (lexer_Spell.calls k1 ((rd_T46 l0 x7_1).f0) ((rd_T46 l0 x7_1).f1) ((rd_T46 l0 x7_1).f2) ((rd_T46 l0 x7_1).f3) t574 t575 _ ?side1 A5.out).mono ?_); (case side1 => exact Gl.below hG (bl_ HB.out)); rintro e w10 ⟨rfl, hb⟩; refine ⟨_, rfl, ?_⟩; refine cut1_ (below_step (bl_ HB.out) hb) ?_; clear HB; intro HB; (try clear hb); (try clear hb2); (try clear hk); (try clear hi)))
      go_ret2
      exact ⟨er_, bl_ HB.out⟩
    ·
     rw [if_neg c4] at H
     exact absurd H (by simp)
   ·
    rw [if_neg c3] at H
    have c3b0 := decide_eq_false c3
    clear c3
    simp only [Option.some.injEq, Prod.mk.injEq] at H
    obtain ⟨rfl, rfl⟩ := H
    go_wp2
    go_ret2
    exact ⟨er_, bl_ HB.out⟩
/-! ### salchowlaw10_ParserSpelled: function 16 -/
def salchowlaw10_ParserSpelled.j0 : Nat → List (S41) → Int → Bool → Option (Bool)
 | 0, _, _, _ => none
 | k + 1, x0, x1, x19 => if x19 = true then (some true) else ((some (([(⟨#[32]⟩ : ByteArray), (⟨#[10]⟩ : ByteArray), (⟨#[9, 32, 35, 32, 97, 32, 59, 32, 99, 111, 109, 109, 101, 110, 116, 32, 123, 10]⟩ : ByteArray), (⟨#[32, 32]⟩ : ByteArray)] : List ByteArray) : List ByteArray)).bind fun y492 => ((salchowlaw10_tokens.f k x0).bind fun t495 => (if 0 ≤ (Int.tmod x1 4) then (if (Int.tmod x1 4) < (y492.length : Int) then ((salchowlaw10_spelled.f k t495 (rdOf ByteArray.empty y492 (Int.tmod x1 4))).bind fun bt499 => (if bt499.2 = true then (if (bt499.1.size : Int) > 65536 then (some true) else ((parser_Parse.f k bt499.1).bind fun bt501 => (if bt501.2.1 = 0 then ((pSame.f k bt501.1 x0).bind fun t507 => (some t507)) else (none)))) else (none))) else (none)) else (none))))
def salchowlaw10_ParserSpelled.f (k : Nat) (l0 : List (S41)) (a1 : Int) : Option (Bool) := (salchowlaw10_awake.f k).bind fun t489 => (if t489 = true then ((salchowref10_Small.f k l0 100).bind fun t490 => (if t490 = true then ((parser_Check.f k l0).bind fun t491 => (salchowlaw10_ParserSpelled.j0 k l0 a1 (t491 != 0))) else (salchowlaw10_ParserSpelled.j0 k l0 a1 true))) else (none))
theorem salchowlaw10_ParserSpelled.mono_l : ∀ k, (∀ y0 y1 y2, LeO (salchowlaw10_ParserSpelled.j0 k y0 y1 y2) (salchowlaw10_ParserSpelled.j0 (k + 1) y0 y1 y2))
 | 0 => fun _ _ _ r h => by simp [salchowlaw10_ParserSpelled.j0] at h
 | k + 1 => by
  have ih0 := salchowlaw10_ParserSpelled.mono_l k
  ·
   intro y0 y1 y2
   unfold salchowlaw10_ParserSpelled.j0
   repeat' first
   | (with_reducible exact ih0 _ _ _)
   | (with_reducible exact pSame.mono _ _ _)
   | (with_reducible exact parser_Check.mono _ _)
   | (with_reducible exact parser_Parse.mono _ _)
   | (with_reducible exact salchowlaw10_awake.mono _)
   | (with_reducible exact salchowlaw10_spelled.mono _ _ _)
   | (with_reducible exact salchowlaw10_tokens.mono _ _)
   | (with_reducible exact salchowref10_Small.mono _ _ _)
   | (with_reducible exact LeO.refl _)
   | (with_reducible exact LeO.none _)
   | (with_reducible refine LeO.ite ?_ ?_)
   | (with_reducible refine LeO.bind ?_ (fun _ => ?_))
   | exact ih0 _ _ _
   | exact pSame.mono _ _ _
   | exact parser_Check.mono _ _
   | exact parser_Parse.mono _ _
   | exact salchowlaw10_awake.mono _
   | exact salchowlaw10_spelled.mono _ _ _
   | exact salchowlaw10_tokens.mono _ _
   | exact salchowref10_Small.mono _ _ _
   | exact LeO.none _
   | refine LeO.ite ?_ ?_
   | refine LeO.bind ?_ (fun _ => ?_)
theorem salchowlaw10_ParserSpelled.mono : ∀ a0 a1 k, LeO (salchowlaw10_ParserSpelled.f k a0 a1) (salchowlaw10_ParserSpelled.f (k + 1) a0 a1) := by
 intro a0 a1 k
 have ih0 := salchowlaw10_ParserSpelled.mono_l k
 unfold salchowlaw10_ParserSpelled.f
 repeat' first
   | (with_reducible exact ih0 _ _ _)
   | (with_reducible exact pSame.mono _ _ _)
   | (with_reducible exact parser_Check.mono _ _)
   | (with_reducible exact parser_Parse.mono _ _)
   | (with_reducible exact salchowlaw10_awake.mono _)
   | (with_reducible exact salchowlaw10_spelled.mono _ _ _)
   | (with_reducible exact salchowlaw10_tokens.mono _ _)
   | (with_reducible exact salchowref10_Small.mono _ _ _)
   | (with_reducible exact LeO.refl _)
   | (with_reducible exact LeO.none _)
   | (with_reducible refine LeO.ite ?_ ?_)
   | (with_reducible refine LeO.bind ?_ (fun _ => ?_))
   | exact ih0 _ _ _
   | exact pSame.mono _ _ _
   | exact parser_Check.mono _ _
   | exact parser_Parse.mono _ _
   | exact salchowlaw10_awake.mono _
   | exact salchowlaw10_spelled.mono _ _ _
   | exact salchowlaw10_tokens.mono _ _
   | exact salchowref10_Small.mono _ _ _
   | exact LeO.none _
   | refine LeO.ite ?_ ?_
   | refine LeO.bind ?_ (fun _ => ?_)
def salchowlaw10_ParserSpelled.T6 : Bool × List (List Nat × List Nat) := (true, [([], []), ([0], [0]), ([], []), ([], []), ([3], [3]), ([2, 4], [2, 4]), ([5], [5]), ([1, 6, 1], [1, 6]), ([7], [7]), ([8], [8]), ([8], [8]), ([9, 7, 0, 1, 2, 3, 4, 5, 6, 7, 8, 9], [9]), ([10, 11, 0, 1, 2, 3, 4, 5, 6, 7, 8, 9, 10, 11], [10])])
def salchowlaw10_ParserSpelled.B6 : List Nat := [0, 1, 0, 0, 8, 28, 60, 127, 255, 511, 511, 1023, 4095]
theorem salchowlaw10_ParserSpelled.tab6 : rtab .any (opsOf Tryd.f16 6) = salchowlaw10_ParserSpelled.T6 := by kernel_rfl
theorem salchowlaw10_ParserSpelled.bits6 : waitsOk salchowlaw10_ParserSpelled.T6.2 salchowlaw10_ParserSpelled.B6 = true := by kernel_rfl
set_option maxHeartbeats 8000000 in
set_option maxRecDepth 100000 in
theorem salchowlaw10_ParserSpelled.calls (k : Nat) (A0 : Option Addr) (c0 : Nat) (l0 : List (S41)) (a1 : Int) (r : Bool) (w : World) (hG : Gl w) (hr0 : Kd.C k41 w A0 l0.length l0) (hc0 : l0.length ≤ c0) (h : salchowlaw10_ParserSpelled.f k l0 a1 = some r) :
  Calls Tryd.prog 16 #[.slice A0 l0.length c0, .int .u8 a1] w fun e w' => e = .returned (.bool r) ∧ Below w.heap.size w w' := by
 have hu26 := Tryd.underlying26
 have HR0 := Aside0.mk hr0
 have HC0 := Aside0.mk hc0
 clear hr0 hc0
 have HB := Aside0.mk (Below.refl w.heap.size w)
 have H : ((salchowlaw10_awake.f k).bind fun t489 => (if t489 = true then ((salchowref10_Small.f k l0 100).bind fun t490 => (if t490 = true then ((parser_Check.f k l0).bind fun t491 => (salchowlaw10_ParserSpelled.j0 k l0 a1 (t491 != 0))) else (salchowlaw10_ParserSpelled.j0 k l0 a1 true))) else (none))) = some r := h
 clear h
 replace H := Option.bind_eq_some_iff.mp H
 obtain ⟨t489, A30, H⟩ := H
 (try dsimp only at H)
 have A3 := Aside0.mk A30
 clear A30
 by_cases c4 : t489 = true
 ·
  subst c4
  have H1 : ((salchowref10_Small.f k l0 100).bind fun t490 => (if t490 = true then ((parser_Check.f k l0).bind fun t491 => (salchowlaw10_ParserSpelled.j0 k l0 a1 (t491 != 0))) else (salchowlaw10_ParserSpelled.j0 k l0 a1 true))) = some r := by rw [if_pos rfl] at H; exact H
  clear H
  have H := H1
  clear H1
  have HC5 := Aside0.mk H
  clear H
  go_enter Tryd.func16, Tryd.ntmps16
  go_upto_region 3 with (first | ((with_reducible refine gate_callee (f := 21) rfl ?_); refine goesL_ (some 10) rfl rfl Tryd.func21 (by kernel_rfl) rfl #[] rfl ga_ ?_; (with_reducible refine (salchowlaw10_awake.calls k  true _ A3.out).mono ?_); rintro e w6 ⟨rfl, hb⟩; refine ⟨_, rfl, ?_⟩; have n0_ := Aside0.mk (below_step (bl_ HB.out) hb); clear HB; have HB := n0_; clear n0_; (try clear hb); (try clear hb2); (try clear hk); (try clear hi)))
  (try simp only [Act.put, List.setIfInBounds_toArray, List.set_cons_zero, List.set_cons_succ])
  go_cut [19] (fun v19 wc => ∃ (kq : Nat) (x19_4 : Bool), v19 = .bool x19_4 ∧ Aside0 (salchowlaw10_ParserSpelled.j0 kq l0 a1 x19_4 = some r) ∧ Aside0 (kq ≤ k) ∧ Aside0 (Below w.heap.size w wc))
  case first =>
   have H := HC5.out
   clear HC5
   replace H := Option.bind_eq_some_iff.mp H
   obtain ⟨t490, A70, H⟩ := H
   (try dsimp only at H)
   have A7 := Aside0.mk A70
   clear A70
   by_cases c8 : t490 = true
   ·
    subst c8
    have H1 : ((parser_Check.f k l0).bind fun t491 => (salchowlaw10_ParserSpelled.j0 k l0 a1 (t491 != 0))) = some r := by rw [if_pos rfl] at H; exact H
    clear H
    have H := H1
    clear H1
    replace H := Option.bind_eq_some_iff.mp H
    obtain ⟨t491, A90, H⟩ := H
    (try dsimp only at H)
    have A9 := Aside0.mk A90
    clear A90
    have H' := Aside0.mk H
    clear H
    go_wp2_with (first | ((with_reducible refine gate_callee (f := 45) rfl ?_); refine goesL_ (some 13) rfl rfl Tryd.func45 (by kernel_rfl) rfl #[.slice A0 l0.length c0, .int .i64 100] rfl ga_ ?_; (with_reducible refine (salchowref10_Small.calls k _ _ l0 100 true _ ?side1 ?side2 A7.out).mono ?_); (case side1 => repeat (first | exact (Kd.C_below HR0.out HB.out) | (with_reducible refine Kd.C_alloc ?_ _) | (with_reducible refine Kd.C_drewN ?_ _) | (with_reducible refine Kd.C_drew ?_))); (case side2 => exact HC0.out); rintro e w' ⟨rfl, ⟨nd, rfl⟩⟩; refine ⟨_, rfl, ?_⟩) | (go_at_call 26; (with_reducible refine (parser_Check.calls k _ _ l0 t491 _ ?side1 ?side2 A9.out).mono ?_); (case side1 => repeat (first | exact (Kd.C_below HR0.out (bl_ HB.out)) | (with_reducible refine Kd.C_alloc ?_ _) | (with_reducible refine Kd.C_drewN ?_ _) | (with_reducible refine Kd.C_drew ?_))); (case side2 => exact HC0.out); rintro e w10 ⟨rfl, hb⟩; refine cut1_ (below_step (bl_ HB.out) hb) ?_; clear HB; intro HB; (try clear hb); (try clear hb2); (try clear hk); (try clear hi)))
    go_meet
    case rel => exact ⟨_, ((t491 != 0)), sr_, H', ⟨by first | omega | exact Nat.le_refl _⟩, ⟨bl_ HB.out⟩⟩
   ·
    replace c8 := Bool.eq_false_iff.mpr c8
    subst c8
    have H1 : (salchowlaw10_ParserSpelled.j0 k l0 a1 true) = some r := by rw [if_neg (show ¬ (false = true) by decide)] at H; exact H
    clear H
    have H := H1
    clear H1
    have H' := Aside0.mk H
    clear H
    go_wp2_with (first | ((with_reducible refine gate_callee (f := 45) rfl ?_); refine goesL_ (some 13) rfl rfl Tryd.func45 (by kernel_rfl) rfl #[.slice A0 l0.length c0, .int .i64 100] rfl ga_ ?_; (with_reducible refine (salchowref10_Small.calls k _ _ l0 100 false _ ?side1 ?side2 A7.out).mono ?_); (case side1 => repeat (first | exact (Kd.C_below HR0.out HB.out) | (with_reducible refine Kd.C_alloc ?_ _) | (with_reducible refine Kd.C_drewN ?_ _) | (with_reducible refine Kd.C_drew ?_))); (case side2 => exact HC0.out); rintro e w' ⟨rfl, ⟨nd, rfl⟩⟩; refine ⟨_, rfl, ?_⟩))
    go_meet
    case rel => exact ⟨_, (true), sr_, H', ⟨by first | omega | exact Nat.le_refl _⟩, ⟨bl_ HB.out⟩⟩
  case rest =>
   clear HC5
   try clear c1
   try clear c2
   try clear p2
   try clear c4
   try clear c8
   obtain ⟨kq, x19_4, rfl, HA, HJ4, HB⟩ := hcut
   cases kq with
   | zero => exact absurd HA.out (by simp [salchowlaw10_ParserSpelled.j0])
   | succ kj4 =>
    have H := HA.out
    clear HA
    simp only [salchowlaw10_ParserSpelled.j0] at H
    by_cases c11 : x19_4 = true
    ·
     subst c11
     have H1 : (some true) = some r := by rw [if_pos rfl] at H; exact H
     clear H
     have H := H1
     clear H1
     obtain rfl := Option.some.inj H
     go_wp2
     go_ret
     exact ⟨er_, bl_ HB.out⟩
    ·
     replace c11 := Bool.eq_false_iff.mpr c11
     subst c11
     have H1 : ((some (([(⟨#[32]⟩ : ByteArray), (⟨#[10]⟩ : ByteArray), (⟨#[9, 32, 35, 32, 97, 32, 59, 32, 99, 111, 109, 109, 101, 110, 116, 32, 123, 10]⟩ : ByteArray), (⟨#[32, 32]⟩ : ByteArray)] : List ByteArray) : List ByteArray)).bind fun y492 => ((salchowlaw10_tokens.f kj4 l0).bind fun t495 => (if 0 ≤ (Int.tmod a1 4) then (if (Int.tmod a1 4) < (y492.length : Int) then ((salchowlaw10_spelled.f kj4 t495 (rdOf ByteArray.empty y492 (Int.tmod a1 4))).bind fun bt499 => (if bt499.2 = true then (if (bt499.1.size : Int) > 65536 then (some true) else ((parser_Parse.f kj4 bt499.1).bind fun bt501 => (if bt501.2.1 = 0 then ((pSame.f kj4 bt501.1 l0).bind fun t507 => (some t507)) else (none)))) else (none))) else (none)) else (none)))) = some r := by rw [if_neg (show ¬ (false = true) by decide)] at H; exact H
     clear H
     have H := H1
     clear H1
     obtain ⟨y492, hy492⟩ : ∃ y_ : List ByteArray, y_ = (([(⟨#[32]⟩ : ByteArray), (⟨#[10]⟩ : ByteArray), (⟨#[9, 32, 35, 32, 97, 32, 59, 32, 99, 111, 109, 109, 101, 110, 116, 32, 123, 10]⟩ : ByteArray), (⟨#[32, 32]⟩ : ByteArray)] : List ByteArray)) := ⟨_, rfl⟩
     replace H : ((salchowlaw10_tokens.f kj4 l0).bind fun t495 => (if 0 ≤ (Int.tmod a1 4) then (if (Int.tmod a1 4) < (y492.length : Int) then ((salchowlaw10_spelled.f kj4 t495 (rdOf ByteArray.empty y492 (Int.tmod a1 4))).bind fun bt499 => (if bt499.2 = true then (if (bt499.1.size : Int) > 65536 then (some true) else ((parser_Parse.f kj4 bt499.1).bind fun bt501 => (if bt501.2.1 = 0 then ((pSame.f kj4 bt501.1 l0).bind fun t507 => (some t507)) else (none)))) else (none))) else (none)) else (none))) = some r := by first | (rw [hy492]; with_reducible exact H) | (have H2_ := (Option.bind_some _ _).symm.trans H; rw [hy492]; with_reducible exact H2_) | (have H2_ := (Option.bind_some _ _).symm.trans H; with_reducible exact H2_) | with_reducible exact H | (rw [hy492]; exact H) | exact H
     have Ny492 := Aside0.mk hy492
     clear hy492
     replace H := Option.bind_eq_some_iff.mp H
     obtain ⟨t495, A120, H⟩ := H
     (try dsimp only at H)
     have A12 := Aside0.mk A120
     clear A120
     obtain ⟨ji13, hji13⟩ : ∃ j_ : Int, (Int.tmod a1 4) = j_ := ⟨_, rfl⟩
     replace H : (if 0 ≤ (ji13) then (if (ji13) < (y492.length : Int) then ((salchowlaw10_spelled.f kj4 t495 (rdOf ByteArray.empty y492 (ji13))).bind fun bt499 => (if bt499.2 = true then (if (bt499.1.size : Int) > 65536 then (some true) else ((parser_Parse.f kj4 bt499.1).bind fun bt501 => (if bt501.2.1 = 0 then ((pSame.f kj4 bt501.1 l0).bind fun t507 => (some t507)) else (none)))) else (none))) else (none)) else (none)) = some r := by first | (rw [hji13] at H; exact H) | (simp only [hji13] at H ⊢; exact H)
     (try rw [hji13] at A12)
     by_cases c14 : 0 ≤ (ji13)
     ·
      rw [if_pos c14] at H
      have c14b0 := decide_eq_true c14
      clear c14
      by_cases c15 : (ji13) < (y492.length : Int)
      ·
       rw [if_pos c15] at H
       have c15b0 := decide_eq_true c15
       clear c15
       replace H := Option.bind_eq_some_iff.mp H
       obtain ⟨⟨t499, t500⟩, A160, H⟩ := H
       (try dsimp only at H)
       have A16 := Aside0.mk A160
       clear A160
       by_cases c17 : t500 = true
       ·
        subst c17
        have H1 : (if (t499.size : Int) > 65536 then (some true) else ((parser_Parse.f kj4 t499).bind fun bt501 => (if bt501.2.1 = 0 then ((pSame.f kj4 bt501.1 l0).bind fun t507 => (some t507)) else (none)))) = some r := by rw [if_pos rfl] at H; exact H
        clear H
        have H := H1
        clear H1
        by_cases c18 : (t499.size : Int) > 65536
        ·
         rw [if_pos c18] at H
         have c18b0 := decide_eq_true c18
         have c18b1 : decide (65536 < t499.size) = true := decide_eq_true (by omega)
         clear c18
         obtain rfl := Option.some.inj H
         try go_wp2_with (first | ((with_reducible refine gate_dst (N := 20) rfl ?_); refine Kd.R_lit Kd.string _ 9 ?hg (N := 20) ?hd (xs := ([(⟨#[32]⟩ : ByteArray), (⟨#[10]⟩ : ByteArray), (⟨#[9, 32, 35, 32, 97, 32, 59, 32, 99, 111, 109, 109, 101, 110, 116, 32, 123, 10]⟩ : ByteArray), (⟨#[32, 32]⟩ : ByteArray)] : List ByteArray)) (inner := [.string (⟨#[32]⟩ : ByteArray), .string (⟨#[10]⟩ : ByteArray), .string (⟨#[9, 32, 35, 32, 97, 32, 59, 32, 99, 111, 109, 109, 101, 110, 116, 32, 123, 10]⟩ : ByteArray), .string (⟨#[32, 32]⟩ : ByteArray)]) (ok := fun _ => True) (okp := fun _ => True) ?hr ?hp (fun _ hk => hk) trivial (Below.refl _ _) (Nat.le_refl _) (by simp) ?_; (case hd => rfl); (case hg => rfl); (case hr => first | (go_simp; done) | (go_simp; rfl)); (case hp => exact (Reps.one (show Kd.M Kd.string _ _ _ (⟨#[32]⟩ : ByteArray) [.string (⟨#[32]⟩ : ByteArray)] from rfl) (Reps.one (show Kd.M Kd.string _ _ _ (⟨#[10]⟩ : ByteArray) [.string (⟨#[10]⟩ : ByteArray)] from rfl) (Reps.one (show Kd.M Kd.string _ _ _ (⟨#[9, 32, 35, 32, 97, 32, 59, 32, 99, 111, 109, 109, 101, 110, 116, 32, 123, 10]⟩ : ByteArray) [.string (⟨#[9, 32, 35, 32, 97, 32, 59, 32, 99, 111, 109, 109, 101, 110, 116, 32, 123, 10]⟩ : ByteArray)] from rfl) (Reps.one (show Kd.M Kd.string _ _ _ (⟨#[32, 32]⟩ : ByteArray) [.string (⟨#[32, 32]⟩ : ByteArray)] from rfl) (Reps.none _ _)))))); intro v493 w19 ho20 hb hg_ hnew_; clear hg_ hnew_; (first | rw [← Ny492.out] at ho20 | (simp only [Int.reduceToNat] at ho20; rw [← Ny492.out] at ho20)); refine cut2_ (Kd.R_lower ho20 (below_size (bl_ HB.out))) (below_step (bl_ HB.out) hb) ?_; clear HB; intro HO494 HB; clear hb ho20))
         refine cut2_ (Kd.R_drew HO494.out) (below_drew1 HB.out) ?_
         clear HO494 HB
         intro HO494 HB
         obtain ⟨Ao22, co22, eo22⟩ := Kd.R_slice HO494.out
         (first | subst eo22 | (injection eo22 with f1_ f2_ f3_; have f4_ := f1_.symm; have f5_ := f3_.symm; clear f1_ f2_ f3_; subst f4_; subst f5_))
         have p498 : 0 ≤ ((ji13) : Int) := dt_
         have q498 : (ji13) < (y492.length : Int) := dt_
         obtain ⟨ad498, e498, hx498_0⟩ := Kd.at_string (Kd.R_reads' HO494.out).2.2 (ji13) p498 q498
         cases e498
         replace p498 := eq_true p498
         replace q498 := eq_true q498
         refine start_ (n := 13) (S := fun w' => w'.cell? (ad498.add ((ji13)).toNat) = some (.string (rdOf ByteArray.empty y492 (ji13)))) (ds := []) #[false, false, false, false, false, false, false, false, false, false, false, false, false] (by kernel_rfl) rfl rfl (hx498_0) (fun hHeld => ?_); refine with_tabW salchowlaw10_ParserSpelled.tab6 salchowlaw10_ParserSpelled.bits6 (fun HT_ HW_ => ?_)
         generalize w19.drew = w21 at HO494 HB hx498_0 hHeld ⊢
         refine pr_ (i := 0) (N := some 22) #[true, false, false, false, false, false, false, false, false, false, false, false, false] (any_of HT_.out (by kernel_rfl)) ?_
         refine pr_ (i := 2) (N := some 24) #[true, false, true, false, false, false, false, false, false, false, false, false, false] (any_of HT_.out (by kernel_rfl)) ?_
         refine pr_ (i := 3) (N := some 25) #[true, false, true, true, false, false, false, false, false, false, false, false, false] (any_of HT_.out (by kernel_rfl)) ?_
         refine pr_ (i := 4) (N := some 26) #[true, false, true, true, true, false, false, false, false, false, false, false, false] (any_of HT_.out (by kernel_rfl)) ?_
         refine pr_ (i := 5) (N := some 27) #[true, false, true, true, true, true, false, false, false, false, false, false, false] (any_of HT_.out (by kernel_rfl)) ?_
         refine take_ (i := 6) (N := some 28) (v := ?_) (a' := ?_) #[true, false, true, true, true, true, true, false, false, false, false, false, false] rfl rfl (take_ofW HT_.out HW_.out (by kernel_rfl)) (fun _ _ _ h => h) (Or.inl ⟨by rfl, ?_⟩) hHeld ?_ ?_
         rotate_left
         ·
          intro w' s0
          go_simp
          with_reducible rfl
         rotate_left
         ·
          simp only [Act.put, List.setIfInBounds_toArray, List.set_cons_zero, List.set_cons_succ, i64_w, i32_w]
          rfl
         refine one_ (i := 1) (N := some 23) #[true, true, true, true, true, true, true, false, false, false, false, false, false] rfl rfl (one_of HT_.out (by kernel_rfl)) (by decide) (fun K hK => ?_)
         refine goes_ Tryd.func27 (by kernel_rfl) rfl #[.slice A0 l0.length c0] (by rfl) rfl rfl ga_ ?_
         with_reducible refine (salchowlaw10_tokens.calls kj4 _ _ l0 t495 _ ?side1 ?side2 A12.out).mono ?_
         (case side1 => repeat (first | exact (Kd.C_below HR0.out HB.out) | (with_reducible refine Kd.C_alloc ?_ _) | (with_reducible refine Kd.C_drewN ?_ _) | (with_reducible refine Kd.C_drew ?_)))
         (case side2 => exact HC0.out)
         rintro e w23 ⟨v496, rfl, ho0, hb⟩
         have HS0_ := (hb.cell (World.block_lt_of_cell? _ _ (hHeld))).trans (hHeld)
         refine ⟨_, rfl, ?_⟩
         refine cut3_ (Kd.R_below (rR_ HO494.out) hb) (Kd.R_lower ho0 (below_size (bl_ HB.out))) (below_step (bl_ HB.out) hb) ?_
         clear HO494 HB
         intro HO494 HO497 HB
         (try clear hb)
         (try clear hb2)
         (try clear hk)
         (try clear hi)
         (try clear ho0)
         obtain ⟨Ao24, co24, eo24⟩ := Kd.R_slice HO497.out
         (first | subst eo24 | (injection eo24 with f1_ f2_ f3_; have f4_ := f1_.symm; have f5_ := f3_.symm; clear f1_ f2_ f3_; subst f4_; subst f5_))
         refine hK.out _ _ (HS0_) (fun hHeld => ?_)
         clear hK K
         refine norm_ (a' := ?_) ?_ ?_
         rotate_left
         ·
          show Act.put _ (some 23) _ = _
          simp only [Act.put, List.setIfInBounds_toArray, List.set_cons_zero, List.set_cons_succ, i64_w, i32_w]
          rfl
         refine one_ (i := 7) (N := some 29) #[true, true, true, true, true, true, true, true, false, false, false, false, false] rfl rfl (one_of HT_.out (by kernel_rfl)) (by decide) (fun K hK => ?_)
         refine goes_ Tryd.func46 (by kernel_rfl) rfl #[.slice Ao24 t495.length co24, .string (rdOf ByteArray.empty y492 (ji13))] (by rfl) rfl rfl (by (try simp only [List.map_toArray, List.map_cons, List.map_nil]); first | done | (simp only [hji13]; rfl) | rfl | (simp only [List.length_drop, List.length_take]; rfl)) ?_
         with_reducible refine (salchowlaw10_spelled.calls kj4 _ _ t495 (rdOf ByteArray.empty y492 (ji13)) t499 true _ ?side1 ?side2 ?side3 A16.out).mono ?_
         (case side1 => exact Gl.below hG (bl_ HB.out))
         (case side2 => repeat (first | exact (Kd.R_reads' HO497.out).2.2 | (with_reducible refine Kd.C_alloc ?_ _) | (with_reducible refine Kd.C_drewN ?_ _) | (with_reducible refine Kd.C_drew ?_)))
         (case side3 => exact (Kd.R_reads' HO497.out).2.1)
         rintro e w25 ⟨rfl, hb⟩
         have HS0_ := (hb.cell (World.block_lt_of_cell? _ _ (hHeld))).trans (hHeld)
         refine ⟨_, rfl, ?_⟩
         refine cut3_ (Kd.R_below (rR_ HO494.out) hb) (Kd.R_below (rR_ HO497.out) hb) (below_step (bl_ HB.out) hb) ?_
         clear HO494 HO497 HB
         intro HO494 HO497 HB
         (try clear hb)
         (try clear hb2)
         (try clear hk)
         (try clear hi)
         refine hK.out _ _ (HS0_) (fun hHeld => ?_)
         clear hK K
         refine norm_ (a' := ?_) ?_ ?_
         rotate_left
         ·
          show Act.put _ (some 29) _ = _
          simp only [Act.put, List.setIfInBounds_toArray, List.set_cons_zero, List.set_cons_succ, i64_w, i32_w]
          rfl
         refine pr_ (i := 8) (N := some 21) #[true, true, true, true, true, true, true, true, true, false, false, false, false] (any_of HT_.out (by kernel_rfl)) ?_
         refine pr_ (i := 9) (N := some 30) #[true, true, true, true, true, true, true, true, true, true, false, false, false] (any_of HT_.out (by kernel_rfl)) ?_
         refine pr_ (i := 10) (N := some 31) #[true, true, true, true, true, true, true, true, true, true, true, false, false] (any_of HT_.out (by kernel_rfl)) ?_
         refine pr_ (i := 11) (N := some 6) #[true, true, true, true, true, true, true, true, true, true, true, true, false] (any_of HT_.out (by kernel_rfl)) ?_
         refine pr_ (i := 12) (N := some 7) #[true, true, true, true, true, true, true, true, true, true, true, true, true] (any_of HT_.out (by kernel_rfl)) ?_
         refine done_ (done_of HT_.out (by kernel_rfl)) ?_
         try go_wp2
         go_ret
         exact ⟨by first | rfl | (simp [errW_none, errW_some] <;> rfl) | (simp only [← hji13]; first | rfl | (simp [errW_none, errW_some] <;> rfl)) | (simp [*, errW_none, errW_some] <;> rfl), bl_ HB.out⟩
        ·
         rw [if_neg c18] at H
         have c18b0 := decide_eq_false c18
         have c18b1 : decide (65536 < t499.size) = false := decide_eq_false (by omega)
         clear c18
         replace H := Option.bind_eq_some_iff.mp H
         obtain ⟨⟨t501, t504, t505⟩, A260, H⟩ := H
         (try dsimp only at H)
         have A26 := Aside0.mk A260
         clear A260
         by_cases c27 : t504 = 0
         ·
          rw [if_pos c27] at H
          have c27b0 := beq_iff_eq.mpr c27
          have c27b1 := bne_eq_false_iff_eq.mpr c27
          clear c27
          replace H := Option.bind_eq_some_iff.mp H
          obtain ⟨t507, A280, H⟩ := H
          (try dsimp only at H)
          have A28 := Aside0.mk A280
          clear A280
          obtain rfl := Option.some.inj H
          try go_wp2_with (first | ((with_reducible refine gate_dst (N := 20) rfl ?_); refine Kd.R_lit Kd.string _ 9 ?hg (N := 20) ?hd (xs := ([(⟨#[32]⟩ : ByteArray), (⟨#[10]⟩ : ByteArray), (⟨#[9, 32, 35, 32, 97, 32, 59, 32, 99, 111, 109, 109, 101, 110, 116, 32, 123, 10]⟩ : ByteArray), (⟨#[32, 32]⟩ : ByteArray)] : List ByteArray)) (inner := [.string (⟨#[32]⟩ : ByteArray), .string (⟨#[10]⟩ : ByteArray), .string (⟨#[9, 32, 35, 32, 97, 32, 59, 32, 99, 111, 109, 109, 101, 110, 116, 32, 123, 10]⟩ : ByteArray), .string (⟨#[32, 32]⟩ : ByteArray)]) (ok := fun _ => True) (okp := fun _ => True) ?hr ?hp (fun _ hk => hk) trivial (Below.refl _ _) (Nat.le_refl _) (by simp) ?_; (case hd => rfl); (case hg => rfl); (case hr => first | (go_simp; done) | (go_simp; rfl)); (case hp => exact (Reps.one (show Kd.M Kd.string _ _ _ (⟨#[32]⟩ : ByteArray) [.string (⟨#[32]⟩ : ByteArray)] from rfl) (Reps.one (show Kd.M Kd.string _ _ _ (⟨#[10]⟩ : ByteArray) [.string (⟨#[10]⟩ : ByteArray)] from rfl) (Reps.one (show Kd.M Kd.string _ _ _ (⟨#[9, 32, 35, 32, 97, 32, 59, 32, 99, 111, 109, 109, 101, 110, 116, 32, 123, 10]⟩ : ByteArray) [.string (⟨#[9, 32, 35, 32, 97, 32, 59, 32, 99, 111, 109, 109, 101, 110, 116, 32, 123, 10]⟩ : ByteArray)] from rfl) (Reps.one (show Kd.M Kd.string _ _ _ (⟨#[32, 32]⟩ : ByteArray) [.string (⟨#[32, 32]⟩ : ByteArray)] from rfl) (Reps.none _ _)))))); intro v493 w29 ho30 hb hg_ hnew_; clear hg_ hnew_; (first | rw [← Ny492.out] at ho30 | (simp only [Int.reduceToNat] at ho30; rw [← Ny492.out] at ho30)); refine cut2_ (Kd.R_lower ho30 (below_size (bl_ HB.out))) (below_step (bl_ HB.out) hb) ?_; clear HB; intro HO494 HB; clear hb ho30))
          refine cut2_ (Kd.R_drew HO494.out) (below_drew1 HB.out) ?_
          clear HO494 HB
          intro HO494 HB
          obtain ⟨Ao32, co32, eo32⟩ := Kd.R_slice HO494.out
          (first | subst eo32 | (injection eo32 with f1_ f2_ f3_; have f4_ := f1_.symm; have f5_ := f3_.symm; clear f1_ f2_ f3_; subst f4_; subst f5_))
          have p498 : 0 ≤ ((ji13) : Int) := dt_
          have q498 : (ji13) < (y492.length : Int) := dt_
          obtain ⟨ad498, e498, hx498_0⟩ := Kd.at_string (Kd.R_reads' HO494.out).2.2 (ji13) p498 q498
          cases e498
          replace p498 := eq_true p498
          replace q498 := eq_true q498
          refine start_ (n := 13) (S := fun w' => w'.cell? (ad498.add ((ji13)).toNat) = some (.string (rdOf ByteArray.empty y492 (ji13)))) (ds := []) #[false, false, false, false, false, false, false, false, false, false, false, false, false] (by kernel_rfl) rfl rfl (hx498_0) (fun hHeld => ?_); refine with_tabW salchowlaw10_ParserSpelled.tab6 salchowlaw10_ParserSpelled.bits6 (fun HT_ HW_ => ?_)
          generalize w29.drew = w31 at HO494 HB hx498_0 hHeld ⊢
          refine pr_ (i := 0) (N := some 22) #[true, false, false, false, false, false, false, false, false, false, false, false, false] (any_of HT_.out (by kernel_rfl)) ?_
          refine pr_ (i := 2) (N := some 24) #[true, false, true, false, false, false, false, false, false, false, false, false, false] (any_of HT_.out (by kernel_rfl)) ?_
          refine pr_ (i := 3) (N := some 25) #[true, false, true, true, false, false, false, false, false, false, false, false, false] (any_of HT_.out (by kernel_rfl)) ?_
          refine pr_ (i := 4) (N := some 26) #[true, false, true, true, true, false, false, false, false, false, false, false, false] (any_of HT_.out (by kernel_rfl)) ?_
          refine pr_ (i := 5) (N := some 27) #[true, false, true, true, true, true, false, false, false, false, false, false, false] (any_of HT_.out (by kernel_rfl)) ?_
          refine take_ (i := 6) (N := some 28) (v := ?_) (a' := ?_) #[true, false, true, true, true, true, true, false, false, false, false, false, false] rfl rfl (take_ofW HT_.out HW_.out (by kernel_rfl)) (fun _ _ _ h => h) (Or.inl ⟨by rfl, ?_⟩) hHeld ?_ ?_
          rotate_left
          ·
           intro w' s0
           go_simp
           with_reducible rfl
          rotate_left
          ·
           simp only [Act.put, List.setIfInBounds_toArray, List.set_cons_zero, List.set_cons_succ, i64_w, i32_w]
           rfl
          refine one_ (i := 1) (N := some 23) #[true, true, true, true, true, true, true, false, false, false, false, false, false] rfl rfl (one_of HT_.out (by kernel_rfl)) (by decide) (fun K hK => ?_)
          refine goes_ Tryd.func27 (by kernel_rfl) rfl #[.slice A0 l0.length c0] (by rfl) rfl rfl ga_ ?_
          with_reducible refine (salchowlaw10_tokens.calls kj4 _ _ l0 t495 _ ?side1 ?side2 A12.out).mono ?_
          (case side1 => repeat (first | exact (Kd.C_below HR0.out HB.out) | (with_reducible refine Kd.C_alloc ?_ _) | (with_reducible refine Kd.C_drewN ?_ _) | (with_reducible refine Kd.C_drew ?_)))
          (case side2 => exact HC0.out)
          rintro e w33 ⟨v496, rfl, ho0, hb⟩
          have HS0_ := (hb.cell (World.block_lt_of_cell? _ _ (hHeld))).trans (hHeld)
          refine ⟨_, rfl, ?_⟩
          refine cut3_ (Kd.R_below (rR_ HO494.out) hb) (Kd.R_lower ho0 (below_size (bl_ HB.out))) (below_step (bl_ HB.out) hb) ?_
          clear HO494 HB
          intro HO494 HO497 HB
          (try clear hb)
          (try clear hb2)
          (try clear hk)
          (try clear hi)
          (try clear ho0)
          obtain ⟨Ao34, co34, eo34⟩ := Kd.R_slice HO497.out
          (first | subst eo34 | (injection eo34 with f1_ f2_ f3_; have f4_ := f1_.symm; have f5_ := f3_.symm; clear f1_ f2_ f3_; subst f4_; subst f5_))
          refine hK.out _ _ (HS0_) (fun hHeld => ?_)
          clear hK K
          refine norm_ (a' := ?_) ?_ ?_
          rotate_left
          ·
           show Act.put _ (some 23) _ = _
           simp only [Act.put, List.setIfInBounds_toArray, List.set_cons_zero, List.set_cons_succ, i64_w, i32_w]
           rfl
          refine one_ (i := 7) (N := some 29) #[true, true, true, true, true, true, true, true, false, false, false, false, false] rfl rfl (one_of HT_.out (by kernel_rfl)) (by decide) (fun K hK => ?_)
          refine goes_ Tryd.func46 (by kernel_rfl) rfl #[.slice Ao34 t495.length co34, .string (rdOf ByteArray.empty y492 (ji13))] (by rfl) rfl rfl (by (try simp only [List.map_toArray, List.map_cons, List.map_nil]); first | done | (simp only [hji13]; rfl) | rfl | (simp only [List.length_drop, List.length_take]; rfl)) ?_
          with_reducible refine (salchowlaw10_spelled.calls kj4 _ _ t495 (rdOf ByteArray.empty y492 (ji13)) t499 true _ ?side1 ?side2 ?side3 A16.out).mono ?_
          (case side1 => exact Gl.below hG (bl_ HB.out))
          (case side2 => repeat (first | exact (Kd.R_reads' HO497.out).2.2 | (with_reducible refine Kd.C_alloc ?_ _) | (with_reducible refine Kd.C_drewN ?_ _) | (with_reducible refine Kd.C_drew ?_)))
          (case side3 => exact (Kd.R_reads' HO497.out).2.1)
          rintro e w35 ⟨rfl, hb⟩
          have HS0_ := (hb.cell (World.block_lt_of_cell? _ _ (hHeld))).trans (hHeld)
          refine ⟨_, rfl, ?_⟩
          refine cut3_ (Kd.R_below (rR_ HO494.out) hb) (Kd.R_below (rR_ HO497.out) hb) (below_step (bl_ HB.out) hb) ?_
          clear HO494 HO497 HB
          intro HO494 HO497 HB
          (try clear hb)
          (try clear hb2)
          (try clear hk)
          (try clear hi)
          refine hK.out _ _ (HS0_) (fun hHeld => ?_)
          clear hK K
          refine norm_ (a' := ?_) ?_ ?_
          rotate_left
          ·
           show Act.put _ (some 29) _ = _
           simp only [Act.put, List.setIfInBounds_toArray, List.set_cons_zero, List.set_cons_succ, i64_w, i32_w]
           rfl
          refine pr_ (i := 8) (N := some 21) #[true, true, true, true, true, true, true, true, true, false, false, false, false] (any_of HT_.out (by kernel_rfl)) ?_
          refine pr_ (i := 9) (N := some 30) #[true, true, true, true, true, true, true, true, true, true, false, false, false] (any_of HT_.out (by kernel_rfl)) ?_
          refine pr_ (i := 10) (N := some 31) #[true, true, true, true, true, true, true, true, true, true, true, false, false] (any_of HT_.out (by kernel_rfl)) ?_
          refine pr_ (i := 11) (N := some 6) #[true, true, true, true, true, true, true, true, true, true, true, true, false] (any_of HT_.out (by kernel_rfl)) ?_
          refine pr_ (i := 12) (N := some 7) #[true, true, true, true, true, true, true, true, true, true, true, true, true] (any_of HT_.out (by kernel_rfl)) ?_
          refine done_ (done_of HT_.out (by kernel_rfl)) ?_
          try go_wp2_with (first | ((with_reducible refine gate_callee (f := 22) rfl ?_); refine goesL_ (some 39) rfl rfl Tryd.func22 (by kernel_rfl) rfl #[.string t499] rfl ga_ ?_; (with_reducible refine (parser_Parse.calls kj4 t499 t501 t504 t505 _ A26.out).mono ?_); rintro e w36 ⟨v502, rfl, ho0, hb⟩; refine ⟨_, rfl, ?_⟩; refine cut4_ (Kd.R_below (rR_ HO494.out) hb) (Kd.R_below (rR_ HO497.out) hb) (Kd.R_lower (Kd.R_new' ho0 (Kd.R_lt (rR_ HO497.out))) (below_size (bl_ HB.out))) (below_step (bl_ HB.out) hb) ?_; clear HO494 HO497 HB; intro HO494 HO497 HO503 HB; (try clear hb); (try clear hb2); (try clear hk); (try clear hi); (try clear ho0)) | ((with_reducible refine gate_dst (N := 9) rfl ?_); refine bx_ (N := 9) (cs := #[.int .i64 0, .int .i64 0]) (t := 26) ?_; intro gb506 hg w37 hbox hb; refine cut7_ (Kd.R_below (rR_ HO494.out) hb) (Kd.R_below (rR_ HO497.out) hb) (Kd.R_below (rR_ HO503.out) hb) (below_step (bl_ HB.out) hb) (hbox) (bz_ (w := w) hg (bl_ HB.out)) (bz_ (w := w) hg (bl_ HB.out)) ?_; clear HO494 HO497 HO503 HB; intro HO494 HO497 HO503 HB BK506 GW506 GE506; clear hb hbox hg; obtain ⟨hcz38_0, hcz38_1, hfz38_0, hfz38_1⟩ := cq2_ BK506.out; obtain ⟨Ao39, co39, eo39⟩ := Kd.R_slice HO503.out; subst eo39) | (go_at_call 29; (with_reducible refine (pSame.calls kj4 _ _ t501 _ _ l0 t507 _ ?side1 ?side2 ?side3 ?side4 A28.out).mono ?_); (case side1 => refine (Kd.R_reads' (e := 41) (base := w.heap.size) (ok := fun k_ => (True ∧ some k_ ≠ (.slice Ao34 t495.length co34 : Value).ownBlock)) (n := t501.length) (c := co39) ?_).2.2; exact (by (with_reducible repeat (first | apply Kd.R_alloc | apply Kd.R_drewN | apply Kd.R_drew)); exact (Kd.R_mono (Kd.R_far (p := ⟨gb506, 1, none⟩) (Kd.R_far (p := ⟨gb506, 0, none⟩) (Kd.R_types HO503.out BK506.out (by decide)) (fun _ hk => hk.2) (.int .i64 t504)) (fun _ hk => hk.2) (.int .i64 t505)) (fun _ h_ => h_.1)))); (case side2 => exact (Kd.R_reads' HO503.out).2.1); (case side3 => exact Kd.C_below HR0.out (bl1_ HB.out GE506.out)); (case side4 => exact HC0.out); rintro e w40 ⟨rfl, hb⟩; refine cut5_ (Kd.R_below (by (with_reducible repeat (first | apply Kd.R_alloc | apply Kd.R_drewN | apply Kd.R_drew)); exact (Kd.R_mono (Kd.R_far (p := ⟨gb506, 1, none⟩) (Kd.R_far (p := ⟨gb506, 0, none⟩) (Kd.R_types HO494.out BK506.out (by decide)) (fun _ hk => hk.2) (.int .i64 t504)) (fun _ hk => hk.2) (.int .i64 t505)) (fun _ h_ => h_.1))) hb) (Kd.R_below (by (with_reducible repeat (first | apply Kd.R_alloc | apply Kd.R_drewN | apply Kd.R_drew)); exact (Kd.R_mono (Kd.R_far (p := ⟨gb506, 1, none⟩) (Kd.R_far (p := ⟨gb506, 0, none⟩) (Kd.R_types HO497.out BK506.out (by decide)) (fun _ hk => hk.2) (.int .i64 t504)) (fun _ hk => hk.2) (.int .i64 t505)) (fun _ h_ => h_.1))) hb) (Kd.R_below (by (with_reducible repeat (first | apply Kd.R_alloc | apply Kd.R_drewN | apply Kd.R_drew)); exact (Kd.R_mono (Kd.R_far (p := ⟨gb506, 1, none⟩) (Kd.R_far (p := ⟨gb506, 0, none⟩) (Kd.R_types HO503.out BK506.out (by decide)) (fun _ hk => hk.2) (.int .i64 t504)) (fun _ hk => hk.2) (.int .i64 t505)) (fun _ h_ => h_.1))) hb) (blk_below (g := gb506) (o := .cells #[.int .i64 t504, .int .i64 t505] 26 (0, 0)) (put2_ (bk_ BK506.out)) hb) (below_step (bl1_ HB.out GE506.out) hb) ?_; clear HO494 HO497 HO503 BK506 HB; intro HO494 HO497 HO503 BK506 HB; (try clear hb); (try clear hb2); (try clear hk); (try clear hi)))
          go_ret
          exact ⟨by first | rfl | (simp [errW_none, errW_some] <;> rfl) | (simp only [← hji13]; first | rfl | (simp [errW_none, errW_some] <;> rfl)) | (simp [*, errW_none, errW_some] <;> rfl), bl1_ HB.out GE506.out⟩
         ·
          rw [if_neg c27] at H
          exact absurd H (by simp)
       ·
        replace c17 := Bool.eq_false_iff.mpr c17
        subst c17
        have H1 : (none) = some r := by rw [if_neg (show ¬ (false = true) by decide)] at H; exact H
        clear H
        have H := H1
        clear H1
        exact absurd H (by simp)
      ·
       rw [if_neg c15] at H
       exact absurd H (by simp)
     ·
      rw [if_neg c14] at H
      exact absurd H (by simp)
 ·
  replace c4 := Bool.eq_false_iff.mpr c4
  subst c4
  have H1 : (none) = some r := by rw [if_neg (show ¬ (false = true) by decide)] at H; exact H
  clear H
  have H := H1
  clear H1
  exact absurd H (by simp)
end Go.Proofs.YtkifdadhojbohaaDoor.Pr
namespace Go.Proofs.YtkifdadhojbohaaDoor.Pu
open Go.RowKit Go.Proofs.YtkifdadhojbohaaDoor Go.Proofs.YtkifdadhojbohaaDoor.Pr Go.Proofs.YtkifdadhojbohaaDoorW.PrintWords Go.Proofs.YtkifdadhojbohaaDoorW.PrintLast Go.Proofs.YtkifdadhojbohaaDoorW.PrintMore
/-! ### Spelled -/
/-- Small. -/
theorem room_f : ∀ l, ∀ m : Int, -1 ≤ m → m ≤ 1000000 → ∃ r, Ev (fun k => salchowref10_room.f k l m) r ∧ r ≤ m ∧ -1 ≤ r ∧ (0 ≤ r → (szL l : Int) + r = m ∧ AllC (txt 200) l) := by
  have loop : ∀ l, ∀ (A : List S41) (i : Nat) (m : Int), A.drop i = l → i ≤ A.length → -1 ≤ m → m ≤ 1000000 → (i : Int) + m ≤ 2000000 → ∃ r, Ev (fun k => salchowref10_room.l0 k A m (i : Int)) r ∧ r ≤ m ∧ -1 ≤ r ∧ (0 ≤ r → (szL l : Int) + r = m ∧ AllC (txt 200) l) := by
    refine indL ?_ ?_
    · intro A i m hA hi h1 h2 _
      have : A.length ≤ i := by
        have := congrArg List.length hA
        rw [List.length_drop] at this
        simp at this; omega
      refine ⟨m, ?_, by omega, h1, fun _ => ⟨by simp [szL], AllC.nil⟩⟩
      refine Ev.succ ?_
      simp only [salchowref10_room.l0]
      refine Ev.ifn (by omega) (Ev.succ ?_)
      simp only [salchowref10_room.j1]
      exact Ev.ifn (by simp) (Ev.now _)
    · intro c l ih1 ih2 A i m hA hi h1 h2 h3
      obtain ⟨a1, a2, a3⟩ := rd41_at hA
      have stop : ∀ b, b = false → Ev (fun k => salchowref10_room.j1 k A m (i : Int) b) m := by
        intro b hb
        subst hb
        refine Ev.succ ?_
        simp only [salchowref10_room.j1]
        exact Ev.ifn (by simp) (Ev.now _)
      have start : ∀ r, Ev (fun k => salchowref10_room.j1 k A m (i : Int) (decide (m ≥ 0))) r → Ev (fun k => salchowref10_room.l0 k A m (i : Int)) r := by
        intro r h
        refine Ev.succ ?_
        simp only [salchowref10_room.l0]
        exact Ev.ifp (by omega) h
      by_cases hm : m ≥ 0
      · have drop : Ev (fun k => salchowref10_room.j2 k A m (i : Int) true) (-1) := by
          refine Ev.succ ?_
          simp only [salchowref10_room.j2]
          exact Ev.ifp trivial (Ev.now _)
        have step : ∀ r, (if (c.f1.length : Int) > m - 1 then Ev (fun k => salchowref10_room.j2 k A m (i : Int) true) r else Ev (fun k => salchowref10_room.j2 k A m (i : Int) (decide ((c.f0.size : Int) > 200))) r) → Ev (fun k => salchowref10_room.l0 k A m (i : Int)) r := by
          intro r h
          refine start r ?_
          rw [decide_eq_true hm]
          refine Ev.succ ?_
          simp only [salchowref10_room.j1, a2]
          rw [wrap64_of (i := m - 1) (by omega) (by omega)]
          refine Ev.ifp trivial (Ev.ifp natO (Ev.ifp (by omega) ?_))
          by_cases hx : (c.f1.length : Int) > m - 1
          · rw [if_pos hx] at h; exact Ev.ifp hx h
          · rw [if_neg hx] at h; exact Ev.ifn hx h
        by_cases hx : (c.f1.length : Int) > m - 1
        · exact ⟨-1, step _ (by rw [if_pos hx]; exact drop), by omega, by omega, by omega⟩
        · by_cases hw : (c.f0.size : Int) > 200
          · exact ⟨-1, step _ (by rw [if_neg hx, decide_eq_true hw]; exact drop), by omega, by omega, by omega⟩
          · -- the atoms
            have inner : ∀ (d j : Nat) (ats : List S46), c.f1.drop j = ats → j ≤ c.f1.length → c.f1.length - j = d →
                ∃ r, Ev (fun k => salchowref10_room.l1 k A (m - 1 - c.f1.length) (i : Int) (j : Int)) r ∧ r ≤ m ∧ -1 ≤ r ∧ (0 ≤ r → (szL c.f3 : Int) + szL l + r = m - 1 - c.f1.length ∧ (∀ a ∈ ats, a.f1.size ≤ 200) ∧ AllC (txt 200) c.f3 ∧ AllC (txt 200) l) := by
              intro d
              induction d with
              | zero =>
                intro j ats hj hjl hd
                have e : ats = [] := by rw [← hj]; exact List.drop_eq_nil_of_le (by omega)
                subst e
                have hkids : ∃ r, Ev (fun k => salchowref10_room.f k c.f3 (m - 1 - c.f1.length)) r ∧ r ≤ m - 1 - c.f1.length ∧ -1 ≤ r ∧ (0 ≤ r → (szL c.f3 : Int) + r = m - 1 - c.f1.length ∧ AllC (txt 200) c.f3) := by
                  obtain ⟨r, g1, g2⟩ := ih1 c.f3 0 (m - 1 - c.f1.length) rfl (by omega) (by omega) (by omega) (by omega)
                  refine ⟨r, ?_, g2⟩
                  refine Ev.succ ?_
                  simp only [salchowref10_room.f]
                  exact g1
                obtain ⟨r1, g1, g2, g3, g4⟩ := hkids
                obtain ⟨r2, k1, k2, k3_, k4⟩ := ih2 A (i + 1) r1 a3 (by omega) g3 (by omega) (by omega)
                refine ⟨r2, ?_, by omega, k3_, fun hr => ?_⟩
                · refine Ev.succ ?_
                  simp only [salchowref10_room.l1, a2]
                  rw [wrap64_of (i := (i : Int) + 1) (by omega) (by omega)]
                  exact Ev.ifp natO (Ev.ifp (by omega) (Ev.ifn (by omega) (Ev.bind g1 k1)))
                · obtain ⟨u1, u2⟩ := k4 hr
                  obtain ⟨v1, v2⟩ := g4 (by omega)
                  exact ⟨by omega, by simp, v2, u2⟩
              | succ d ih =>
                intro j ats hj hjl hd
                cases ats with
                | nil =>
                  have := congrArg List.length hj
                  rw [List.length_drop] at this
                  simp at this; omega
                | cons a ats =>
                  obtain ⟨b1, b2, b3⟩ := rd_at hj
                  by_cases ha : (a.f1.size : Int) > 200
                  · refine ⟨-1, ?_, by omega, by omega, by omega⟩
                    refine Ev.succ ?_
                    simp only [salchowref10_room.l1, a2, b2]
                    exact Ev.ifp natO (Ev.ifp (by omega) (Ev.ifp (by omega) (Ev.ifp natO (Ev.ifp ha (Ev.now _)))))
                  · obtain ⟨r, g1, g2, g3, g4⟩ := ih (j + 1) ats b3 (by omega) (by omega)
                    refine ⟨r, ?_, g2, g3, fun hr => ?_⟩
                    · refine Ev.succ ?_
                      simp only [salchowref10_room.l1, a2, b2]
                      rw [wrap64_of (i := (j : Int) + 1) (by omega) (by omega)]
                      exact Ev.ifp natO (Ev.ifp (by omega) (Ev.ifp (by omega) (Ev.ifp natO (Ev.ifn ha g1))))
                    · obtain ⟨u1, u2, u3, u4⟩ := g4 hr
                      refine ⟨u1, ?_, u3, u4⟩
                      intro x hx
                      rcases List.mem_cons.1 hx with rfl | hx
                      · omega
                      · exact u2 x hx
            obtain ⟨r, g1, g2, g3, g4⟩ := inner c.f1.length 0 c.f1 rfl (by omega) (by omega)
            refine ⟨r, step _ ?_, g2, g3, fun hr => ?_⟩
            · rw [if_neg hx, decide_eq_false hw]
              refine Ev.succ ?_
              simp only [salchowref10_room.j2, a2]
              rw [wrap64_of (i := 1 + (c.f1.length : Int)) (by omega) (by omega), wrap64_of (by omega) (by omega)]
              rw [show m - (1 + (c.f1.length : Int)) = m - 1 - c.f1.length by omega]
              exact Ev.ifn (by simp) (Ev.ifp natO (Ev.ifp (by omega) g1))
            · obtain ⟨u1, u2, u3, u4⟩ := g4 hr
              refine ⟨?_, AllC.cons _ _ ⟨by omega, u2⟩ u3 u4⟩
              rw [szL]; omega
      · exact ⟨m, start _ (stop _ (decide_eq_false hm)), by omega, h1, by omega⟩
  intro l m h1 h2
  obtain ⟨r, g1, g2⟩ := loop l l 0 m rfl (by omega) h1 h2 (by omega)
  refine ⟨r, ?_, g2⟩
  refine Ev.succ ?_
  simp only [salchowref10_room.f]
  exact g1
theorem Small_f (l : List S41) (m : Nat) (hm : m ≤ 1000) : ∃ b, Ev (fun k => salchowref10_Small.f k l (m : Int)) b ∧ (b = true → szL l ≤ m ∧ AllC (txt 200) l) := by
  obtain ⟨r, g1, g2, g3, g4⟩ := room_f l m (by omega) (by omega)
  refine ⟨decide (r ≥ 0), ?_, fun h => ?_⟩
  · simp only [salchowref10_Small.f]
    exact Ev.bind g1 (Ev.now _)
  · have h0 : r ≥ 0 := of_decide_eq_true h
    obtain ⟨u1, u2⟩ := g4 h0
    exact ⟨by omega, u2⟩
theorem AllC.mono {P Q : S41 → Prop} (h : ∀ c, P c → Q c) {l : List S41} (hl : AllC P l) : AllC Q l := by
  induction hl with
  | nil => exact AllC.nil
  | cons c l hc _ _ ih1 ih2 => exact AllC.cons c l (h c hc) ih1 ih2
theorem txt_mono {n m : Nat} (h : n ≤ m) {l : List S41} (hl : AllC (txt n) l) : AllC (txt m) l :=
  hl.mono fun _ hc => ⟨Nat.le_trans hc.1 h, fun a ha => Nat.le_trans (hc.2 a ha) h⟩
/-- The tokens of possible entries are possible. -/
theorem toks_valid (n : Nat) (hn : 1 ≤ n) : ∀ l, formL l = true → AllC (txt n) l → ∀ t ∈ toksL l, validB t.f0 (lst t.f1) t.f2 = true ∧ t.f0 ≠ 5 ∧ t.f1.size ≤ n := by
  refine indL ?_ ?_
  · intro _ _ t ht
    rw [toksL] at ht; cases ht
  · intro c l h1 h2 hf hP t ht
    rw [formL] at hf
    simp only [Bool.and_eq_true] at hf
    obtain ⟨⟨⟨⟨f1, f2⟩, f3⟩, f4⟩, f5⟩ := hf
    cases hP with
    | cons _ _ hc hk hr =>
    have hsg : ∀ b : UInt8, kindOf b.toNat = 5 → validB (sgT b).f0 (lst (sgT b).f1) (sgT b).f2 = true ∧ (sgT b).f0 ≠ 5 ∧ (sgT b).f1.size ≤ n := by
      intro b hb
      refine ⟨?_, show (4 : Int) ≠ 5 by decide, hn⟩
      show validB 4 [b] 0 = true
      unfold validB
      simp [hb]
    rw [toksL] at ht
    rcases List.mem_append.1 ht with ht | ht
    · rcases List.mem_append.1 ht with ht | ht
      · rcases List.mem_cons.1 ht with rfl | ht
        · exact ⟨f1, by show (1 : Int) ≠ 5; decide, hc.1⟩
        · have := List.all_eq_true.1 f3 t ht
          unfold okA at this
          rw [Bool.and_eq_true] at this
          refine ⟨this.2, ?_, hc.2 t ht⟩
          intro h5
          have h := this.1
          simp [isA, h5] at h
      · by_cases hb : c.f2 = true
        · rw [if_pos hb] at ht
          rcases List.mem_append.1 ht with ht | ht
          · rcases List.mem_cons.1 ht with rfl | ht
            · exact hsg 123 (by decide)
            · exact h1 f4 hk t ht
          · rw [List.mem_singleton] at ht
            subst ht
            exact hsg 125 (by decide)
        · rw [if_neg hb, List.mem_singleton] at ht
          subst ht
          exact hsg 59 (by decide)
    · exact h2 f5 hr t ht
theorem spelled_f (b : ByteArray) (hb : b.size ≤ 100) (T : List S46) (hT : T.length ≤ 1000) (hv : ∀ t ∈ T, validB t.f0 (lst t.f1) t.f2 = true ∧ t.f0 ≠ 5 ∧ t.f1.size ≤ 900000) :
    Ev (fun k => salchowlaw10_spelled.f k T b) (str (emit (T.map fun t => (k3 t, lst b))), true) ∧ (emit (T.map fun t => (k3 t, lst b))).length ≤ T.length * 200 := by
  have loop : ∀ (l : List S46) (i : Nat) (acc : List UInt8), T.drop i = l → i ≤ T.length → acc.length ≤ i * 200 → Ev (fun k => salchowlaw10_spelled.l0 k T b (str acc) (i : Int)) (str (acc ++ emit (l.map fun t => (k3 t, lst b))), true) ∧ (emit (l.map fun t => (k3 t, lst b))).length ≤ l.length * 200 := by
    intro l
    induction l with
    | nil =>
      intro i acc hi hl ha
      have : T.length ≤ i := by
        have := congrArg List.length hi
        rw [List.length_drop] at this
        simp at this; omega
      refine ⟨?_, by simp [emit]⟩
      refine Ev.succ ?_
      simp only [salchowlaw10_spelled.l0]
      exact Ev.ifn (by omega) (Ev.ret (by simp [emit]))
    | cons t l ih =>
      intro i acc hi hl ha
      obtain ⟨a1, a2, a3⟩ := rd_at hi
      have hm : t ∈ T := List.mem_of_mem_drop (by rw [hi]; simp)
      obtain ⟨v1, v2, v3⟩ := hv t hm
      obtain ⟨_, _, r3⟩ := reads_of_valid v1 v2
      have hbl : (lst b).length ≤ 100 := by rw [lst_length]; exact hb
      obtain ⟨g1, g2⟩ := ih (i + 1) (acc ++ (spellS t.f0 (lst t.f1) t.f2 ++ lst b)) a3 (by omega) (by simp; omega)
      have hem : emit ((t :: l).map fun t => (k3 t, lst b)) = spellS t.f0 (lst t.f1) t.f2 ++ (lst b ++ emit (l.map fun t => (k3 t, lst b))) := rfl
      refine ⟨?_, ?_⟩
      · refine Ev.succ ?_
        simp only [salchowlaw10_spelled.l0, a2]
        have hsp := Spell_f t.f0 t.f1 (by omega) t.f2 t.f3
        rw [if_pos v1] at hsp
        refine Ev.ifp (by omega) (Ev.ifp natO (Ev.bind hsp (Ev.ifp rfl ?_)))
        have e : str acc ++ (str (spellS t.f0 (lst t.f1) t.f2) ++ b) = str (acc ++ (spellS t.f0 (lst t.f1) t.f2 ++ lst b)) := lst_inj (by rw [lst_append, lst_append]; rfl)
        rw [e, wrap_nat i (by omega)]
        have s1 : (str (spellS t.f0 (lst t.f1) t.f2)).size ≤ 60 := by rw [size_str]; exact r3
        refine Ev.ifp (by dsimp only; omega) (Ev.ifp ?_ ?_)
        · dsimp only; rw [size_str, ByteArray.size_append]; omega
        · rw [hem]
          simpa using g1
      · rw [hem]
        simp
        omega
  have := loop T 0 [] rfl (by omega) (by simp)
  refine ⟨?_, this.2⟩
  simp only [salchowlaw10_spelled.f]
  exact this.1
theorem emit_ok (g : List UInt8) (hg : gapB g) (hr : ∃ c x, g = c :: x ∧ isRunB c = false) : ∀ T : List S46, (∀ t ∈ T, validB t.f0 (lst t.f1) t.f2 = true ∧ t.f0 ≠ 5) → emitOk (T.map fun t => (k3 t, g)) ∧ T.length ≤ (emit (T.map fun t => (k3 t, g))).length := by
  intro T
  induction T with
  | nil => intro _; exact ⟨trivial, by simp⟩
  | cons t T ih =>
    intro h
    obtain ⟨i1, i2⟩ := ih (fun x hx => h x (by simp [hx]))
    obtain ⟨v1, v2⟩ := h t (by simp)
    obtain ⟨c, x, rfl, hc⟩ := hr
    refine ⟨⟨v1, v2, hg, .inr (.inr ?_), i1⟩, ?_⟩
    · intro c' x' e
      rw [List.cons_append] at e
      injection e with e _
      subst e; exact hc
    · show _ ≤ (spellS t.f0 (lst t.f1) t.f2 ++ (c :: x ++ emit (T.map fun t => (k3 t, c :: x)))).length
      simp
      omega
def gaps : List ByteArray := [(⟨#[32]⟩ : ByteArray), (⟨#[10]⟩ : ByteArray), (⟨#[9, 32, 35, 32, 97, 32, 59, 32, 99, 111, 109, 109, 101, 110, 116, 32, 123, 10]⟩ : ByteArray), (⟨#[32, 32]⟩ : ByteArray)]
theorem gaps_ok : ∀ b ∈ gaps, gapB (lst b) ∧ (∃ c x, lst b = c :: x ∧ isRunB c = false) ∧ b.size ≤ 100 := by
  intro b hb
  simp only [gaps, List.mem_cons, List.not_mem_nil, or_false] at hb
  rcases hb with rfl | rfl | rfl | rfl
  · exact ⟨fun x => by show skipL false (32 :: x) = _; rw [sk0]; rfl, ⟨_, _, rfl, by decide⟩, by decide⟩
  · exact ⟨fun x => by show skipL false (10 :: x) = _; rw [sk0]; rfl, ⟨_, _, rfl, by decide⟩, by decide⟩
  · exact ⟨fun x => by
      show skipL false (9 :: 32 :: 35 :: 32 :: 97 :: 32 :: 59 :: 32 :: 99 :: 111 :: 109 :: 109 :: 101 :: 110 :: 116 :: 32 :: 123 :: 10 :: x) = _
      rw [sk0, if_neg (by decide), if_pos (by decide), sk0, if_neg (by decide), if_pos (by decide), sk0, if_pos (by decide)]
      iterate 14 rw [sk1, if_neg (by decide)]
      rw [sk1, if_pos (by decide)], ⟨_, _, rfl, by decide⟩, by decide⟩
  · exact ⟨fun x => by show skipL false (32 :: 32 :: x) = _; rw [skip_blank, skip_blank], ⟨_, _, rfl, by decide⟩, by decide⟩
theorem u8_lo {i : Int} (h : (Lit.int .u8 i).wf = true) : 0 ≤ i := by
  simp only [Lit.wf, Bool.and_eq_true] at h
  exact of_decide_eq_true h.1
theorem u8_hi {i : Int} (h : (Lit.int .u8 i).wf = true) : i < 256 := by
  simp only [Lit.wf, Bool.and_eq_true] at h
  have : i ≤ 255 := of_decide_eq_true h.2
  omega
theorem parserSpelled (l : List S41) (i : Int) (h0 : 0 ≤ i) (h1 : i < 256) : ∃ k, salchowlaw10_ParserSpelled.f k l i = some true := by
  apply Ev.rounds
  have skip : Ev (fun k => salchowlaw10_ParserSpelled.j0 k l i true) true := by
    refine Ev.succ ?_
    simp only [salchowlaw10_ParserSpelled.j0]
    exact Ev.ifp trivial (Ev.now _)
  unfold salchowlaw10_ParserSpelled.f
  refine Ev.bind awake10_f (Ev.ifp rfl ?_)
  obtain ⟨b, g1, g2⟩ := Small_f l 100 (by omega)
  refine Ev.bind g1 ?_
  cases b with
  | false => exact Ev.ifn (by simp) skip
  | true =>
    obtain ⟨hsz, hP⟩ := g2 rfl
    have hP' := txt_mono (m := 900000) (by omega) hP
    refine Ev.ifp rfl (Ev.bind (Check_f l (by omega) hP') ?_)
    by_cases hc : chkL l = 0
    · rw [hc]
      have hf : formL l = true ∧ depL l ≤ 8 := by
        unfold chkL at hc
        split at hc
        · rename_i h
          refine ⟨h, ?_⟩
          split at hc
          · cases hc
          · omega
        · cases hc
      have ht := toks_le l
      refine Ev.succ ?_
      simp only [salchowlaw10_ParserSpelled.j0]
      refine Ev.ifn (by simp) (Ev.val rfl (Ev.bind (toks_f l (by omega)) ?_))
      have hm : Int.tmod i 4 = i % 4 := Int.tmod_eq_emod_of_nonneg h0
      rw [hm]
      have hm0 : 0 ≤ i % 4 := by omega
      have hm1 : i % 4 < 4 := by omega
      refine Ev.ifp hm0 (Ev.ifp hm1 ?_)
      have hgap : ∃ b ∈ gaps, rdOf ByteArray.empty gaps (i % 4) = b := by
        obtain ⟨n, hn⟩ : ∃ n : Nat, i % 4 = (n : Int) := ⟨(i % 4).toNat, by omega⟩
        rw [hn]
        have hn4 : n < 4 := by omega
        match n, hn4 with
        | 0, _ => exact ⟨(⟨#[32]⟩ : ByteArray), by simp [gaps], rfl⟩
        | 1, _ => exact ⟨(⟨#[10]⟩ : ByteArray), by simp [gaps], rfl⟩
        | 2, _ => exact ⟨(⟨#[9, 32, 35, 32, 97, 32, 59, 32, 99, 111, 109, 109, 101, 110, 116, 32, 123, 10]⟩ : ByteArray), by simp [gaps], rfl⟩
        | 3, _ => exact ⟨(⟨#[32, 32]⟩ : ByteArray), by simp [gaps], rfl⟩
      obtain ⟨b, hbm, hb⟩ := hgap
      obtain ⟨k1, k2, k3_⟩ := gaps_ok b hbm
      have hval := toks_valid 900000 (by omega) l hf.1 hP'
      obtain ⟨s1, s2⟩ := spelled_f b k3_ (toksL l) (by omega) hval
      show Ev (fun k => (salchowlaw10_spelled.f k (toksL l) (rdOf ByteArray.empty gaps (i % 4))).bind _) true
      rw [hb]
      refine Ev.bind s1 (Ev.ifp rfl ?_)
      by_cases hbig : ((str (emit ((toksL l).map fun t => (k3 t, lst b)))).size : Int) > 65536
      · exact Ev.ifp hbig (Ev.now _)
      · refine Ev.ifn hbig ?_
        obtain ⟨e1, e2⟩ := emit_ok (lst b) k1 k2 (toksL l) (fun t ht => ⟨(hval t ht).1, (hval t ht).2.1⟩)
        obtain ⟨vs, x1, x2⟩ := relex2 _ ((str (emit ((toksL l).map fun t => (k3 t, lst b)))).size + 1) (by rw [size_str, List.length_map]; omega) e1
        obtain ⟨cs, y1, y2⟩ := PA_spelled (str (emit ((toksL l).map fun t => (k3 t, lst b)))) l hf.1 hf.2 (by omega) (us := vs) (by rw [lst_str]; exact x1) (by rw [x2, List.map_map]; rfl)
        exact Ev.bind (Parse_f (str (emit ((toksL l).map fun t => (k3 t, lst b)))) (by omega) y2) (Ev.ifp rfl (Ev.bind (Same_f y1) (Ev.now _)))
    · have e : (chkL l != 0) = true := by rw [bne_iff_ne]; exact hc
      rw [e]; exact skip
end Go.Proofs.YtkifdadhojbohaaDoor.Pu
namespace Go.Proofs.YtkifdadhojbohaaDoor.Rk
open Go.RowKit Go.Proofs.YtkifdadhojbohaaDoor.Pr Go.Proofs.YtkifdadhojbohaaDoorW.PrintWords Go.ChangeShapes Go.WideShapes
theorem list4 {α : Type} : ∀ {l : List α}, l.length = 4 → ∃ a b c d, l = [a, b, c, d]
  | [a, b, c, d], _ => ⟨a, b, c, d, rfl⟩
theorem list5 {α : Type} : ∀ {l : List α}, l.length = 5 → ∃ a b c d e, l = [a, b, c, d, e]
  | [a, b, c, d, e], _ => ⟨a, b, c, d, e, rfl⟩
section
variable {H : Type} {enc : TypeId × Value → H} {w : World} {base : Nat} {spare : Nat → Bool} {held : Bool}
theorem open_row_of {α : Type} [Inhabited α] (d : Kd α) {t e : TypeId} (ht : Tryd.prog.underlying t = some (.slice e)) (hce : Tryd.prog.cellsOf e = d.sz) {fuel : Nat} {v : Value} {x : DataW H × List MemPlace}
    (h : DataW.trod enc Tryd.prog w base spare held fuel t [v] = some x) (hd : ∀ n cs y, n < fuel → DataW.trod enc Tryd.prog w base spare held n e cs = some y → ∃ p, d.K w p cs) :
    ∃ (A : Option Addr) (T : List α) (c : Nat), v = .slice A T.length c ∧ T.length ≤ c ∧ Kd.C d w A T.length T := by
  rcases DataW.trod_slice ht h with ⟨hv, _⟩ | ⟨a, len, cap, elems, rest, n, hf, hv, _, _, hl, hm, hlen, hel, _, _⟩
  · refine ⟨none, [], 0, (List.cons.inj hv).1, Nat.le_refl _, rfl, by simp, fun h => absurd h (by simp)⟩
  · have hx : ∀ i, i < len → ∃ p : α, ∃ cs, w.cells? base (a.add (i * d.sz)) d.sz = some cs ∧ d.K w p cs := by
      intro i hi
      have h1 := hel i hi
      rw [List.getElem?_eq_getElem (by omega), hce] at h1
      obtain ⟨cs, hc, hy⟩ := Option.bind_eq_some_iff.1 h1
      obtain ⟨p, hp⟩ := hd n cs _ (by omega) hy
      exact ⟨p, cs, hc, hp⟩
    obtain ⟨V, hV⟩ := Deep.choose_lt hx
    have hml : maxLen ≤ 9223372036854775807 := by decide
    refine ⟨some a, (List.range len).map V, cap, ?_, by simpa using hl, by simp, by simp; omega, fun _ => ⟨a, rfl, fun j p hj => ?_⟩⟩
    · rw [(List.cons.inj hv).1]; simp
    · rw [List.getElem?_map] at hj
      obtain ⟨i, hi, rfl⟩ := Option.map_eq_some_iff.1 hj
      have hjl : j < len := by
        have := (List.getElem?_eq_some_iff.1 hi).1
        simpa using this
      rw [List.getElem?_range hjl] at hi
      obtain rfl := Option.some.inj hi
      obtain ⟨cs, hc, hp⟩ := hV j hjl
      obtain ⟨_, hcl, hcell⟩ := World.cells?_some hc
      refine ⟨cs, hcl, hp, fun i u hu => ?_⟩
      have hi : i < d.sz := by rw [← hcl]; exact (List.getElem?_eq_some_iff.1 hu).1
      rw [← Addr.add_add, hcell i hi, hu]
instance : Inhabited S46 := ⟨z46⟩
instance : Inhabited S41 := ⟨z41⟩
theorem tok_of {n : Nat} {cs : List Value} {y : DataW H × List MemPlace} (h : DataW.trod enc Tryd.prog w base spare held n 46 cs = some y) : ∃ p : S46, k46.K w p cs := by
  obtain ⟨y0, y1, y2, y3, m, _, hl, t0, t1, t2, t3⟩ := Joins.trod_struct4 Tryd.underlying46 h
  obtain ⟨b0, e0, _, _⟩ := DataW.trod_int Tryd.underlying3 t0
  obtain ⟨b1, e1, _, _⟩ := DataW.trod_string Tryd.underlying9 t1
  obtain ⟨b2, e2, _, _⟩ := DataW.trod_int Tryd.underlying2 t2
  obtain ⟨b3, e3, _, _⟩ := DataW.trod_int Tryd.underlying3 t3
  have hc : Tryd.prog.cellsOf 46 = 4 := by kernel_rfl
  have c2 : Tryd.prog.cellsOf 2 = 1 := by kernel_rfl
  have c3 : Tryd.prog.cellsOf 3 = 1 := by kernel_rfl
  have c9 : Tryd.prog.cellsOf 9 = 1 := by kernel_rfl
  rw [hc] at hl
  simp only [c2, c3, c9] at e0 e1 e2 e3
  obtain ⟨u0, u1, u2, u3, rfl⟩ := list4 hl
  obtain rfl : u0 = _ := (List.cons.inj e0).1
  obtain rfl : u1 = _ := (List.cons.inj e1).1
  obtain rfl : u2 = _ := (List.cons.inj e2).1
  obtain rfl : u3 = _ := (List.cons.inj e3).1
  exact ⟨⟨b0, b1, b2, b3⟩, k46_mk w ⟨b0, b1, b2, b3⟩⟩
theorem open_tokens {fuel : Nat} {v : Value} {x : DataW H × List MemPlace} (h : DataW.trod enc Tryd.prog w base spare held fuel 31 [v] = some x) :
    ∃ (A : Option Addr) (T : List S46) (c : Nat), v = .slice A T.length c ∧ T.length ≤ c ∧ Kd.C k46 w A T.length T :=
  open_row_of k46 Tryd.underlying31 (by kernel_rfl) h (fun _ _ _ _ hy => tok_of hy)
theorem clause_of : ∀ (n : Nat) (cs : List Value) (y : DataW H × List MemPlace), DataW.trod enc Tryd.prog w base spare held n 41 cs = some y → ∃ p : S41, k41.K w p cs := by
  intro n
  induction n using Nat.strongRecOn with
  | _ n ih =>
    intro cs y h
    obtain ⟨xs, m, hm, _, hl, hxl, hf⟩ := DataW.trod_struct Tryd.underlying41 h
    have hc : Tryd.prog.cellsOf 41 = 5 := by kernel_rfl
    have c3 : Tryd.prog.cellsOf 3 = 1 := by kernel_rfl
    have c4 : Tryd.prog.cellsOf 4 = 1 := by kernel_rfl
    have c9 : Tryd.prog.cellsOf 9 = 1 := by kernel_rfl
    have c23 : Tryd.prog.cellsOf 23 = 1 := by kernel_rfl
    have c31 : Tryd.prog.cellsOf 31 = 1 := by kernel_rfl
    rw [hc] at hl
    obtain ⟨u0, u1, u2, u3, u4, rfl⟩ := list5 hl
    obtain ⟨y0, y1, y2, y3, y4, rfl⟩ := list5 (l := xs) hxl
    ·
      have t0 : DataW.trod enc Tryd.prog w base spare held m 9 (([u0, u1, u2, u3, u4].drop 0).take (Tryd.prog.cellsOf 9)) = some y0 := hf 0 _ rfl
      have t1 : DataW.trod enc Tryd.prog w base spare held m 31 (([u0, u1, u2, u3, u4].drop 1).take (Tryd.prog.cellsOf 31)) = some y1 := hf 1 _ rfl
      have t2 : DataW.trod enc Tryd.prog w base spare held m 4 (([u0, u1, u2, u3, u4].drop 2).take (Tryd.prog.cellsOf 4)) = some y2 := hf 2 _ rfl
      have t3 : DataW.trod enc Tryd.prog w base spare held m 23 (([u0, u1, u2, u3, u4].drop 3).take (Tryd.prog.cellsOf 23)) = some y3 := hf 3 _ rfl
      have t4 : DataW.trod enc Tryd.prog w base spare held m 3 (([u0, u1, u2, u3, u4].drop 4).take (Tryd.prog.cellsOf 3)) = some y4 := hf 4 _ rfl
      rw [c9] at t0
      rw [c31] at t1
      rw [c4] at t2
      rw [c23] at t3
      rw [c3] at t4
      obtain ⟨b0, e0, _, _⟩ := DataW.trod_string Tryd.underlying9 t0
      obtain ⟨A1, T1, c1, e1, l1, g1⟩ := open_tokens t1
      obtain ⟨b2, e2, _⟩ := DataW.trod_bool Tryd.underlying4 t2
      obtain ⟨A3, T3, c3', e3, l3, g3⟩ := open_row_of k41 Tryd.underlying23 (by kernel_rfl) t3 (fun k cs y hk hy => ih k (by omega) cs y hy)
      obtain ⟨b4, e4, _, _⟩ := DataW.trod_int Tryd.underlying3 t4
      obtain rfl : u0 = _ := (List.cons.inj e0).1
      obtain rfl : u1 = _ := e1
      obtain rfl : u2 = _ := (List.cons.inj e2).1
      obtain rfl : u3 = _ := e3
      obtain rfl : u4 = _ := (List.cons.inj e4).1
      exact ⟨⟨b0, T1, b2, T3, b4⟩, k41_mk w ⟨b0, T1, b2, T3, b4⟩ l1 g1 l3 g3⟩
theorem open_clauses {fuel : Nat} {v : Value} {x : DataW H × List MemPlace} (h : DataW.trod enc Tryd.prog w base spare held fuel 23 [v] = some x) :
    ∃ (A : Option Addr) (T : List S41) (c : Nat), v = .slice A T.length c ∧ T.length ≤ c ∧ Kd.C k41 w A T.length T :=
  open_row_of k41 Tryd.underlying23 (by kernel_rfl) h (fun n cs y _ hy => clause_of n cs y hy)
end
end Go.Proofs.YtkifdadhojbohaaDoor.Rk
namespace Go.Proofs.YtkifdadhojbohaaDoor.parserSpelled
open Go.Proofs.YtkifdadhojbohaaDoorW.PrintWords
open Go.ChangeShapes Go.WideShapes Go.ChangeAt Go.RowKit Rk
open Go.ChangeMaps (open_string shut_string)
theorem c09 : (Rows.parserSpelledRow.inPlace == Tryd.prog.inPlace 16) = true := by kernel_rfl
theorem c10 : (Rows.parserSpelledRow.unfollowed == Tryd.prog.unfollowed 16) = true := by kernel_rfl
theorem c11 : (Rows.parserSpelledRow.recurses == Tryd.prog.recurses 16) = true := by kernel_rfl
theorem c12 : (Rows.parserSpelledRow.named == Tryd.prog.varsNamed 16) = true := by kernel_rfl
theorem facts : joinedFacts Tryd.prog 16 Tryd.f16 Rows.parserSpelledSpec Rows.parserSpelledRow = true :=
  facts_of _ _ _ _ _ (by kernel_rfl) out_ rowed_ (by kernel_rfl) (by kernel_rfl) rfl (by kernel_rfl) rfl (by kernel_rfl) c09 c10 c11 c12 (by kernel_rfl) (by kernel_rfl) (by kernel_rfl) (by kernel_rfl) (by kernel_rfl)
    (by kernel_rfl) (by kernel_rfl) (by kernel_rfl) (by kernel_rfl) (by kernel_rfl) (by kernel_rfl) heard_ enter_ (by kernel_rfl) (by kernel_rfl) (by kernel_rfl) (by kernel_rfl) (by kernel_rfl) (by kernel_rfl)
theorem goes : false = Rows.parserSpelledRow.goesBy Tryd.prog := by kernel_rfl
set_option maxRecDepth 100000 in
theorem lifted (os : Os) (started : os.Started) (H : Type) (enc : TypeId × Value → H) :
    ReturnsInHanded {} Tryd.checked os 16 .any (fun w args => (Rows.parserSpelledSpec.pre enc Tryd.prog Tryd.f16 [] false w args ∧ laidMetH Tryd.prog laidB w) ∧ sizedMet enc Tryd.prog Tryd.f16 (OpenSpec.ofChange Rows.parserSpelledSpec) false w args)
      (Rows.parserSpelledSpec.post enc Tryd.prog Tryd.f16 false true false false) := by
  refine returnsInHanded_of_change_and (C := Tryd.checked) (X := fun w _ => laidMetH Tryd.prog laidB w) (fun _ _ _ hh h => h.of_heap hh) own started (by kernel_rfl) Tryd.func16
    (ChangeSpec.witness_shaped (enc := enc) (C := Tryd.checked) (os := os) (X := fun w _ => laidMetH Tryd.prog laidB w) false (wB os) #[.slice none 0 0, .int .u8 0] 8 (World.laidAll_os _ _ _)
      (World.shaped_of_ZipB (by kernel_rfl) (by kernel_rfl)) (by kernel_rfl) (by kernel_rfl) (by kernel_rfl) (met_B os _)) ?_
  intro W base args ds gs before hval0 hW _ hsz0 hL _
  have hsz : (DataW.weightsEach Tryd.prog (Tryd.f16.params.toList ++ Rows.parserSpelledSpec.plain.varTypes Tryd.prog) (ds ++ gs)).all (· ≤ reachBytes) = true := hsz0
  have hval : ∀ (j : Nat) t v, Tryd.f16.params[j]? = some t → args[j]? = some v → Value.okWide Tryd.prog W .any base t v := hval0
  have hW' := hW
  obtain ⟨p, q, hA0, hV, rfl, _, _⟩ := hW
  have hA : DataW.TrodAll enc Tryd.prog W 0 (fun _ => true) true Tryd.f16.params.toList args.toList ds p := hA0
  rw [Tryd.params16] at hA hval hsz
  obtain ⟨v0, vs0, d0, ds0, p0, q0, hargs, rfl, rfl, h0, r0⟩ := trodAll_cons hA
  obtain ⟨v1, vs1, d1, ds1, p1, q1, rfl, rfl, rfl, h1, r1⟩ := trodAll_cons r0
  obtain ⟨rfl, rfl, rfl⟩ := trodAll_nil r1
  obtain rfl : args = #[v0, v1] := by cases args; simp_all
  obtain ⟨rfl, rfl⟩ := trodVars_none hV
  obtain ⟨a0, len0, cap0, rfl⟩ := okWide_slice Tryd.underlying23 (hval 0 23 v0 rfl rfl)
  have k0 := h0
  have lt0 : ∀ x ∈ p0, x.block < W.heap.size := by obtain ⟨m, hm⟩ := k0; exact DataW.trod_lt m _ _ _ hm
  obtain ⟨A0, T0, c0, e0, l0, g0⟩ : ∃ A T c, Value.slice a0 len0 cap0 = .slice A T.length c ∧ T.length ≤ c ∧ Kd.C Pr.k41 W A T.length T := by
    obtain ⟨fuel, hf⟩ := h0
    exact open_clauses (fuel := fuel) (by simpa [Value.cells] using hf)
  rw [e0] at k0 hW' ⊢
  obtain ⟨a1, rfl, rfl, rfl, w1⟩ := open_int Tryd.underlying5 (hval 1 5 v1 rfl rfl) h1
  clear hA0 hval0 hsz0 hsz
  obtain ⟨k, hk⟩ := Pu.parserSpelled T0 a1 (Pu.u8_lo w1) (Pu.u8_hi w1)
  refine (Pr.salchowlaw10_ParserSpelled.calls k A0 c0 T0 a1 true W (gl_B hL) g0 l0 hk).mono fun e W' ⟨he, bel⟩ => ?_
  subst he
  exact ⟨_, rfl, _, _, _, [], _, [], hW', trodAll_mk1 (shut_bool Tryd.underlying4 _), (trodAll_cons_mk (Below.trod out_ (by kernel_rfl) (of_decide_eq_true (by kernel_rfl)) k0 bel lt0) (trodAll_cons_mk (shut_int Tryd.underlying5 w1) trodAll_mk0)), rfl, bel.frame _, fun h => by cases h⟩
theorem over : Rows.parserSpelledRow.holds Tryd.pinned (OpenSpec.ofChange Rows.parserSpelledSpec) :=
  OpenClaim.holds_of_wide 16 Tryd.f16 rfl rfl rfl rfl rfl rfl rfl ⟨rfl, rfl, rfl, rfl, rfl⟩ rfl rfl rfl rfl rfl (by kernel_rfl) Tryd.func16 facts
    (of_decide_eq_true (by kernel_rfl)) (by unfold Func.isWrapper; first | (rw [if_pos (by decide +kernel)]; kernel_rfl) | (rw [if_neg (by decide +kernel)]; exact ⟨rfl, rfl⟩))
    (fun os started H enc _ => lifted os started H enc)
theorem card : Rows.ParserSpelledCardSaid :=
  Claim7.holds_tied_plain_at .later [] [.data, .data, .data, .data, .sentinel, .sentinel, .pinned] true (true, "74d2011260c70b611c86c4d3b7f5d11cc5fefff18c715f175ff3522b41f9dd0c") true
    over (fun _ h => by cases h) (by kernel_rfl) (fun _ h => by cases h) parserSpelled_row_tie rfl ⟨rfl, rfl⟩ mainIs_ rfl
    (fun f fn hf hfn => by
      obtain rfl : f = 16 := Option.some.inj ((show Tryd.prog.funcNamed "salchow/salchowlaw10.ParserSpelled" = some 16 by kernel_rfl).symm.trans hf) |>.symm
      obtain rfl : fn = Tryd.f16 := (Option.some.inj (Tryd.func16.symm.trans hfn)).symm
      exact ⟨looks_, fun j t ht => by
        rw [Tryd.params16] at ht
        have hm : t ∈ [23, 5] := by simpa using Array.mem_of_getElem? ht
        have hall : ([23, 5].all fun u => !Tryd.prog.wantsStandIn u) = true := by kernel_rfl
        exact (show Tryd.prog.wantsStandIn t = false by simpa using List.all_eq_true.1 hall t hm)⟩)
    goes
#print axioms card
end Go.Proofs.YtkifdadhojbohaaDoor.parserSpelled
