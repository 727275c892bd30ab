/- Joined out of the texts of this proof that bear the names PrF115 PrF116 PrF93 PrF94 PrF95 PrF96 PrF117 PrF97 PrF66: what each shows stands over it there. -/
import Derived.Test.YtkifdadhojbohaaDoorYb1
set_option linter.unusedVariables false
set_option linter.unusedSimpArgs false
namespace Go.Proofs.YtkifdadhojbohaaDoor.Pr
open Go.Proofs.YtkifdadhojbohaaDoor
open Go.RowKit Go.Proofs.YtkifdadhojbohaaDoorW.PrintWords Go.Proofs.YtkifdadhojbohaaDoorW.PrintLast Go.Proofs.YtkifdadhojbohaaDoorW.PrintMore
attribute [local go_sem] max2_int min2_int max_two min_two max_three min_three max_four min_four   -- for this text's walks alone
set_option linter.unusedVariables false
set_option linter.unusedSimpArgs false
/-! ### salchowref09_letter: function 115 -/
def salchowref09_letter.f (a0 : Int) : Option (Bool) := if a0 ≥ 65 then (if a0 ≤ 90 then (some true) else (if a0 ≥ 97 then (some (decide (a0 ≤ 122))) else (some false))) else (if a0 ≥ 97 then (some (decide (a0 ≤ 122))) else (some false))
set_option maxHeartbeats 8000000 in
set_option maxRecDepth 100000 in
theorem salchowref09_letter.calls (a0 : Int) (r : Bool) (w : World) (h : salchowref09_letter.f a0 = some r) :
    Calls Tryd.prog 115 #[.int .u8 a0] w fun e w' => e = .returned (.bool r) ∧ Drawn0 w w' := by
  have H : (if a0 ≥ 65 then (if a0 ≤ 90 then (some true) else (if a0 ≥ 97 then (some (decide (a0 ≤ 122))) else (some false))) else (if a0 ≥ 97 then (some (decide (a0 ≤ 122))) else (some false))) = some r := h
  clear h
  by_cases c2 : a0 ≥ 65
  · rw [if_pos c2] at H
    have c2b0 : decide (65 ≤ a0) = true := decide_eq_true c2
    clear c2
    by_cases c3 : a0 ≤ 90
    · rw [if_pos c3] at H
      have c3b0 : decide (a0 ≤ 90) = true := decide_eq_true c3
      clear c3
      obtain rfl := Option.some.inj H
      go_enter Tryd.func115, Tryd.ntmps115
      go_wp2
      go_ret
      exact ⟨by first | rfl | (simp; done) | (simp [*]; done) | (simp <;> rfl), by repeat (first | exact Drawn0.refl _ | apply Drawn0.step)⟩
    · rw [if_neg c3] at H
      have c3b0 : decide (a0 ≤ 90) = false := decide_eq_false c3
      clear c3
      by_cases c4 : a0 ≥ 97
      · rw [if_pos c4] at H
        have c4b0 : decide (97 ≤ a0) = true := decide_eq_true c4
        clear c4
        obtain rfl := Option.some.inj H
        go_enter Tryd.func115, Tryd.ntmps115
        go_wp2
        go_ret
        exact ⟨by first | rfl | (simp; done) | (simp [*]; done) | (simp <;> rfl), by repeat (first | exact Drawn0.refl _ | apply Drawn0.step)⟩
      · rw [if_neg c4] at H
        have c4b0 : decide (97 ≤ a0) = false := decide_eq_false c4
        clear c4
        obtain rfl := Option.some.inj H
        go_enter Tryd.func115, Tryd.ntmps115
        go_wp2
        go_ret
        exact ⟨by first | rfl | (simp; done) | (simp [*]; done) | (simp <;> rfl), by repeat (first | exact Drawn0.refl _ | apply Drawn0.step)⟩
  · rw [if_neg c2] at H
    have c2b0 : decide (65 ≤ a0) = false := decide_eq_false c2
    clear c2
    by_cases c5 : a0 ≥ 97
    · rw [if_pos c5] at H
      have c5b0 : decide (97 ≤ a0) = true := decide_eq_true c5
      clear c5
      obtain rfl := Option.some.inj H
      go_enter Tryd.func115, Tryd.ntmps115
      go_wp2
      go_ret
      exact ⟨by first | rfl | (simp; done) | (simp [*]; done) | (simp <;> rfl), by repeat (first | exact Drawn0.refl _ | apply Drawn0.step)⟩
    · rw [if_neg c5] at H
      have c5b0 : decide (97 ≤ a0) = false := decide_eq_false c5
      clear c5
      obtain rfl := Option.some.inj H
      go_enter Tryd.func115, Tryd.ntmps115
      go_wp2
      go_ret
      exact ⟨by first | rfl | (simp; done) | (simp [*]; done) | (simp <;> rfl), by repeat (first | exact Drawn0.refl _ | apply Drawn0.step)⟩
end Go.Proofs.YtkifdadhojbohaaDoor.Pr
namespace Go.Proofs.YtkifdadhojbohaaDoor.Pr
open Go.Proofs.YtkifdadhojbohaaDoor
open Go.RowKit Go.Proofs.YtkifdadhojbohaaDoorW.PrintWords Go.Proofs.YtkifdadhojbohaaDoorW.PrintLast Go.Proofs.YtkifdadhojbohaaDoorW.PrintMore
attribute [local go_sem] max2_int min2_int max_two min_two max_three min_three max_four min_four   -- for this text's walks alone
set_option linter.unusedVariables false
set_option linter.unusedSimpArgs false
/-! ### salchowref09_digit: function 116 -/
def salchowref09_digit.f (a0 : Int) : Option (Bool) := if a0 ≥ 48 then (some (decide (a0 ≤ 57))) else (some false)
set_option maxHeartbeats 8000000 in
set_option maxRecDepth 100000 in
theorem salchowref09_digit.calls (a0 : Int) (r : Bool) (w : World) (h : salchowref09_digit.f a0 = some r) :
    Calls Tryd.prog 116 #[.int .u8 a0] w fun e w' => e = .returned (.bool r) ∧ Drawn0 w w' := by
  have H : (if a0 ≥ 48 then (some (decide (a0 ≤ 57))) else (some false)) = some r := h
  clear h
  by_cases c2 : a0 ≥ 48
  · rw [if_pos c2] at H
    have c2b0 : decide (48 ≤ a0) = true := decide_eq_true c2
    clear c2
    obtain rfl := Option.some.inj H
    go_enter Tryd.func116, Tryd.ntmps116
    go_wp2
    go_ret
    exact ⟨by first | rfl | (simp; done) | (simp [*]; done) | (simp <;> rfl), by repeat (first | exact Drawn0.refl _ | apply Drawn0.step)⟩
  · rw [if_neg c2] at H
    have c2b0 : decide (48 ≤ a0) = false := decide_eq_false c2
    clear c2
    obtain rfl := Option.some.inj H
    go_enter Tryd.func116, Tryd.ntmps116
    go_wp2
    go_ret
    exact ⟨by first | rfl | (simp; done) | (simp [*]; done) | (simp <;> rfl), by repeat (first | exact Drawn0.refl _ | apply Drawn0.step)⟩
end Go.Proofs.YtkifdadhojbohaaDoor.Pr
namespace Go.Proofs.YtkifdadhojbohaaDoor.Pr
open Go.Proofs.YtkifdadhojbohaaDoor
open Go.RowKit Go.Proofs.YtkifdadhojbohaaDoorW.PrintWords Go.Proofs.YtkifdadhojbohaaDoorW.PrintLast Go.Proofs.YtkifdadhojbohaaDoorW.PrintMore
attribute [local go_sem] max2_int min2_int max_two min_two max_three min_three max_four min_four   -- for this text's walks alone
set_option linter.unusedVariables false
set_option linter.unusedSimpArgs false
/-! ### salchowref09_run: function 93 -/
def salchowref09_run.f (a0 : Int) : Option (Bool) := (salchowref09_letter.f a0).bind fun t206 => (if t206 = true then (some true) else ((salchowref09_digit.f a0).bind fun t207 => (if t207 = true then (some true) else (if a0 = 95 then (some true) else (some (a0 == 46))))))
set_option maxHeartbeats 8000000 in
set_option maxRecDepth 100000 in
theorem salchowref09_run.calls (a0 : Int) (r : Bool) (w : World) (h : salchowref09_run.f a0 = some r) :
    Calls Tryd.prog 93 #[.int .u8 a0] w fun e w' => e = .returned (.bool r) ∧ Drawn0 w w' := by
  have H : ((salchowref09_letter.f a0).bind fun t206 => (if t206 = true then (some true) else ((salchowref09_digit.f a0).bind fun t207 => (if t207 = true then (some true) else (if a0 = 95 then (some true) else (some (a0 == 46))))))) = some r := h
  clear h
  replace H := Option.bind_eq_some_iff.mp H
  obtain ⟨t206, A20, H⟩ := H
  replace H : (if t206 = true then (some true) else ((salchowref09_digit.f a0).bind fun t207 => (if t207 = true then (some true) else (if a0 = 95 then (some true) else (some (a0 == 46)))))) = some r := H
  have A2 := Aside0.mk A20
  clear A20
  by_cases c3 : t206 = true
  · subst c3
    have H1 : (some true) = some r := by rw [if_pos rfl] at H; exact H
    clear H
    have H := H1
    clear H1
    obtain rfl := Option.some.inj H
    go_enter Tryd.func93, Tryd.ntmps93
    go_wp2_with (first | ((with_reducible refine gate_callee (f := 115) rfl ?_); refine goesL_ (some 4) rfl rfl Tryd.func115 (by kernel_rfl) rfl #[.int .u8 a0] rfl (by (try simp only [List.map_toArray, List.map_cons, List.map_nil]); first | done | rfl | (simp only [List.length_drop, List.length_take]; rfl)) ?_; (with_reducible refine (salchowref09_letter.calls a0 true _ A2.out).mono ?_); rintro e w' ⟨rfl, ⟨nd, rfl⟩⟩; refine ⟨_, rfl, ?_⟩))
    go_ret
    exact ⟨by first | rfl | (simp; done) | (simp [*]; done) | (simp <;> rfl), by repeat (first | exact Drawn0.refl _ | apply Drawn0.step)⟩
  · replace c3 := Bool.eq_false_iff.mpr c3
    subst c3
    have H1 : ((salchowref09_digit.f a0).bind fun t207 => (if t207 = true then (some true) else (if a0 = 95 then (some true) else (some (a0 == 46))))) = some r := by rw [if_neg (show ¬ (false = true) by decide)] at H; exact H
    clear H
    have H := H1
    clear H1
    replace H := Option.bind_eq_some_iff.mp H
    obtain ⟨t207, A40, H⟩ := H
    replace H : (if t207 = true then (some true) else (if a0 = 95 then (some true) else (some (a0 == 46)))) = some r := H
    have A4 := Aside0.mk A40
    clear A40
    by_cases c5 : t207 = true
    · subst c5
      have H1 : (some true) = some r := by rw [if_pos rfl] at H; exact H
      clear H
      have H := H1
      clear H1
      obtain rfl := Option.some.inj H
      go_enter Tryd.func93, Tryd.ntmps93
      go_wp2_with (first | ((with_reducible refine gate_callee (f := 115) rfl ?_); refine goesL_ (some 4) rfl rfl Tryd.func115 (by kernel_rfl) rfl #[.int .u8 a0] rfl (by (try simp only [List.map_toArray, List.map_cons, List.map_nil]); first | done | rfl | (simp only [List.length_drop, List.length_take]; rfl)) ?_; (with_reducible refine (salchowref09_letter.calls a0 false _ A2.out).mono ?_); rintro e w' ⟨rfl, ⟨nd, rfl⟩⟩; refine ⟨_, rfl, ?_⟩) | (go_at_call 116; (with_reducible refine (salchowref09_digit.calls a0 true _ A4.out).mono ?_); rintro e w' ⟨rfl, ⟨nd, rfl⟩⟩))
      go_ret
      exact ⟨by first | rfl | (simp; done) | (simp [*]; done) | (simp <;> rfl), by repeat (first | exact Drawn0.refl _ | apply Drawn0.step)⟩
    · replace c5 := Bool.eq_false_iff.mpr c5
      subst c5
      have H1 : (if a0 = 95 then (some true) else (some (a0 == 46))) = some r := by rw [if_neg (show ¬ (false = true) by decide)] at H; exact H
      clear H
      have H := H1
      clear H1
      by_cases c6 : a0 = 95
      · rw [if_pos c6] at H
        have c6b0 : (a0 == 95) = true := beq_iff_eq.mpr c6
        have c6b1 : (a0 != 95) = false := bne_eq_false_iff_eq.mpr c6
        clear c6
        obtain rfl := Option.some.inj H
        go_enter Tryd.func93, Tryd.ntmps93
        go_wp2_with (first | ((with_reducible refine gate_callee (f := 115) rfl ?_); refine goesL_ (some 4) rfl rfl Tryd.func115 (by kernel_rfl) rfl #[.int .u8 a0] rfl (by (try simp only [List.map_toArray, List.map_cons, List.map_nil]); first | done | rfl | (simp only [List.length_drop, List.length_take]; rfl)) ?_; (with_reducible refine (salchowref09_letter.calls a0 false _ A2.out).mono ?_); rintro e w' ⟨rfl, ⟨nd, rfl⟩⟩; refine ⟨_, rfl, ?_⟩) | (go_at_call 116; (with_reducible refine (salchowref09_digit.calls a0 false _ A4.out).mono ?_); rintro e w' ⟨rfl, ⟨nd, rfl⟩⟩))
        go_ret
        exact ⟨by first | rfl | (simp; done) | (simp [*]; done) | (simp <;> rfl), by repeat (first | exact Drawn0.refl _ | apply Drawn0.step)⟩
      · rw [if_neg c6] at H
        have c6b0 : (a0 == 95) = false := beq_eq_false_iff_ne.mpr c6
        have c6b1 : (a0 != 95) = true := bne_iff_ne.mpr c6
        obtain rfl := Option.some.inj H
        go_enter Tryd.func93, Tryd.ntmps93
        go_wp2_with (first | ((with_reducible refine gate_callee (f := 115) rfl ?_); refine goesL_ (some 4) rfl rfl Tryd.func115 (by kernel_rfl) rfl #[.int .u8 a0] rfl (by (try simp only [List.map_toArray, List.map_cons, List.map_nil]); first | done | rfl | (simp only [List.length_drop, List.length_take]; rfl)) ?_; (with_reducible refine (salchowref09_letter.calls a0 false _ A2.out).mono ?_); rintro e w' ⟨rfl, ⟨nd, rfl⟩⟩; refine ⟨_, rfl, ?_⟩) | (go_at_call 116; (with_reducible refine (salchowref09_digit.calls a0 false _ A4.out).mono ?_); rintro e w' ⟨rfl, ⟨nd, rfl⟩⟩))
        go_ret
        exact ⟨by first | rfl | (simp; done) | (simp [*]; done) | (simp <;> rfl), by repeat (first | exact Drawn0.refl _ | apply Drawn0.step)⟩
end Go.Proofs.YtkifdadhojbohaaDoor.Pr
namespace Go.Proofs.YtkifdadhojbohaaDoor.Pr
open Go.Proofs.YtkifdadhojbohaaDoor
open Go.RowKit Go.Proofs.YtkifdadhojbohaaDoorW.PrintWords Go.Proofs.YtkifdadhojbohaaDoorW.PrintLast Go.Proofs.YtkifdadhojbohaaDoorW.PrintMore
attribute [local go_sem] max2_int min2_int max_two min_two max_three min_three max_four min_four   -- for this text's walks alone
set_option linter.unusedVariables false
set_option linter.unusedSimpArgs false
/-! ### salchowref09_Title: function 94 -/
mutual
def salchowref09_Title.j0 : Nat → ByteArray → Bool → Option (Int)
  | 0, _, _ => none
  | k + 1, x0, x19 => if x19 = true then (some 2) else (salchowref09_Title.l0 k x0 0)
def salchowref09_Title.l0 : Nat → ByteArray → Int → Option (Int)
  | 0, _, _ => none
  | k + 1, x0, x3 => if x3 < (x0.size : Int) then (if 0 ≤ x3 then (if (bt x0 x3) < 32 then (some 2) else (if (bt x0 x3) > 126 then (some 2) else (if (bt x0 x3) = 34 then (some 2) else (salchowref09_Title.l0 k x0 (wrap64 (x3 + 1)))))) else (none)) else (if (x0.size : Int) > 40 then (some 6) else (some 0))
end
def salchowref09_Title.f (k : Nat) (a0 : ByteArray) : Option (Int) := if (a0.size : Int) = 0 then (salchowref09_Title.j0 k a0 true) else (if 0 < (a0.size : Int) then (if (bt a0 0) = 32 then (salchowref09_Title.j0 k a0 true) else (if 0 ≤ (wrap64 ((a0.size : Int) - 1)) then (if (wrap64 ((a0.size : Int) - 1)) < (a0.size : Int) then (salchowref09_Title.j0 k a0 ((bt a0 (wrap64 ((a0.size : Int) - 1))) == 32)) else (none)) else (none))) else (none))
theorem salchowref09_Title.mono_l : ∀ k, (∀ y0 y1, LeO (salchowref09_Title.j0 k y0 y1) (salchowref09_Title.j0 (k + 1) y0 y1)) ∧ (∀ y0 y1, LeO (salchowref09_Title.l0 k y0 y1) (salchowref09_Title.l0 (k + 1) y0 y1))
  | 0 => ⟨fun _ _ r h => by simp [salchowref09_Title.j0] at h, fun _ _ r h => by simp [salchowref09_Title.l0] at h⟩
  | k + 1 => by
    obtain ⟨ih0, ih1⟩ := salchowref09_Title.mono_l k
    refine ⟨?_, ?_⟩
    · intro y0 y1
      unfold salchowref09_Title.j0
      repeat' first
      | (with_reducible exact ih0 _ _)
      | (with_reducible exact ih1 _ _)
      | (with_reducible exact LeO.refl _)
      | (with_reducible exact LeO.none _)
      | (with_reducible refine LeO.ite ?_ ?_)
      | (with_reducible refine LeO.bind ?_ (fun _ => ?_))
      | exact ih0 _ _
      | exact ih1 _ _
      | exact LeO.none _
      | refine LeO.ite ?_ ?_
      | refine LeO.bind ?_ (fun _ => ?_)
    · intro y0 y1
      unfold salchowref09_Title.l0
      repeat' first
      | (with_reducible exact ih0 _ _)
      | (with_reducible exact ih1 _ _)
      | (with_reducible exact LeO.refl _)
      | (with_reducible exact LeO.none _)
      | (with_reducible refine LeO.ite ?_ ?_)
      | (with_reducible refine LeO.bind ?_ (fun _ => ?_))
      | exact ih0 _ _
      | exact ih1 _ _
      | exact LeO.none _
      | refine LeO.ite ?_ ?_
      | refine LeO.bind ?_ (fun _ => ?_)
theorem salchowref09_Title.mono : ∀ a0 k, LeO (salchowref09_Title.f k a0) (salchowref09_Title.f (k + 1) a0) := by
  intro a0 k
  obtain ⟨ih0, ih1⟩ := salchowref09_Title.mono_l k
  unfold salchowref09_Title.f
  repeat' first
      | (with_reducible exact ih0 _ _)
      | (with_reducible exact ih1 _ _)
      | (with_reducible exact LeO.refl _)
      | (with_reducible exact LeO.none _)
      | (with_reducible refine LeO.ite ?_ ?_)
      | (with_reducible refine LeO.bind ?_ (fun _ => ?_))
      | exact ih0 _ _
      | exact ih1 _ _
      | exact LeO.none _
      | refine LeO.ite ?_ ?_
      | refine LeO.bind ?_ (fun _ => ?_)
set_option maxHeartbeats 8000000 in
set_option maxRecDepth 100000 in
theorem salchowref09_Title.calls (k : Nat) (a0 : ByteArray) (r : Int) (w : World) (h : salchowref09_Title.f k a0 = some r) :
    Calls Tryd.prog 94 #[.string a0] w fun e w' => e = .returned (.int .i64 r) ∧ Drawn0 w w' := by
  have H : (if (a0.size : Int) = 0 then (salchowref09_Title.j0 k a0 true) else (if 0 < (a0.size : Int) then (if (bt a0 0) = 32 then (salchowref09_Title.j0 k a0 true) else (if 0 ≤ (wrap64 ((a0.size : Int) - 1)) then (if (wrap64 ((a0.size : Int) - 1)) < (a0.size : Int) then (salchowref09_Title.j0 k a0 ((bt a0 (wrap64 ((a0.size : Int) - 1))) == 32)) else (none)) else (none))) else (none))) = some r := h
  clear h
  have HC2 := Aside0.mk H
  clear H
  go_enter Tryd.func94, Tryd.ntmps94
  go_upto_region 1 with (fail)
  go_cut [19] (fun v19 wc => ∃ (kq : Nat) (x19_1 : Bool), v19 = .bool x19_1 ∧ Aside0 (salchowref09_Title.j0 kq a0 x19_1 = some r) ∧ Aside0 (kq ≤ k) ∧ Drawn0 w wc)
  case first =>
    have H := HC2.out
    clear HC2
    by_cases c3 : (a0.size : Int) = 0
    · rw [if_pos c3] at H
      have c3b0 : ((a0.size : Int) == 0) = true := beq_iff_eq.mpr c3
      have c3b1 : ((a0.size : Int) != 0) = false := bne_eq_false_iff_eq.mpr c3
      clear c3
      (first | rw [c3b0] | (simp only [i64_w, i32_w]; rw [c3b0]) | skip)
      have H' := Aside0.mk H
      clear H
      go_wp2
      go_meet
      case rel => exact ⟨_, (true), (by first | rfl | (simp; done) | (simp [*]; done) | (simp <;> rfl)), H', ⟨by first | omega | exact Nat.le_refl _⟩, by repeat (first | exact Drawn0.refl _ | apply Drawn0.step)⟩
    · rw [if_neg c3] at H
      have c3b0 : ((a0.size : Int) == 0) = false := beq_eq_false_iff_ne.mpr c3
      have c3b1 : ((a0.size : Int) != 0) = true := bne_iff_ne.mpr c3
      (first | rw [c3b0] | (simp only [i64_w, i32_w]; rw [c3b0]) | skip)
      by_cases c4 : 0 < (a0.size : Int)
      · rw [if_pos c4] at H
        have c4b0 : decide (0 < (a0.size : Int)) = true := decide_eq_true c4
        have c4b1 : decide (0 < a0.size) = true := decide_eq_true (by omega)
        clear c4
        by_cases c6 : (bt a0 0) = 32
        · rw [if_pos c6] at H
          have c6b0 : ((bt a0 0) == 32) = true := beq_iff_eq.mpr c6
          have c6b1 : ((bt a0 0) != 32) = false := bne_eq_false_iff_eq.mpr c6
          clear c6
          have H' := Aside0.mk H
          clear H
          have p5 : 0 ≤ (0 : Int) := (by omega)
          have q5 : 0 < a0.size := (by have : (0 : Int) < (a0.size : Int) := of_decide_eq_true (by first | (with_reducible assumption) | assumption); omega)
          have hx5 : ∀ h : 0 < a0.size, ((a0[0]'h).toNat : Int) = bt a0 0 := bt_at a0 0
          clear p5
          have qi5 : (0 < (a0.size : Int)) = True := eq_true (of_decide_eq_true (by first | (with_reducible assumption) | assumption))
          replace q5 := eq_true q5
          go_wp2
          go_meet
          case rel => exact ⟨_, (true), (by first | rfl | (simp; done) | (simp [*]; done) | (simp <;> rfl)), H', ⟨by first | omega | exact Nat.le_refl _⟩, by repeat (first | exact Drawn0.refl _ | apply Drawn0.step)⟩
        · rw [if_neg c6] at H
          have c6b0 : ((bt a0 0) == 32) = false := beq_eq_false_iff_ne.mpr c6
          have c6b1 : ((bt a0 0) != 32) = true := bne_iff_ne.mpr c6
          obtain ⟨ji7, hji7⟩ : ∃ j_ : Int, (wrap64 ((a0.size : Int) - 1)) = j_ := ⟨_, rfl⟩
          replace H : (if 0 ≤ (ji7) then (if (ji7) < (a0.size : Int) then (salchowref09_Title.j0 k a0 ((bt a0 (ji7)) == 32)) else (none)) else (none)) = some r := by first | (rw [hji7] at H; exact H) | (simp only [hji7] at H ⊢; exact H)
          have hji7w : (IntKind.i64.wrap ((a0.size : Int) - 1)) = ji7 := (i64_w _).trans hji7
          by_cases c8 : 0 ≤ (ji7)
          · rw [if_pos c8] at H
            have c8b0 : decide (0 ≤ (ji7)) = true := decide_eq_true c8
            clear c8
            by_cases c9 : (ji7) < (a0.size : Int)
            · rw [if_pos c9] at H
              have c9b0 : decide ((ji7) < (a0.size : Int)) = true := decide_eq_true c9
              clear c9
              have H' := Aside0.mk H
              clear H
              have p5 : 0 ≤ (0 : Int) := (by omega)
              have q5 : 0 < a0.size := (by have : (0 : Int) < (a0.size : Int) := of_decide_eq_true (by first | (with_reducible assumption) | assumption); omega)
              have hx5 : ∀ h : 0 < a0.size, ((a0[0]'h).toNat : Int) = bt a0 0 := bt_at a0 0
              clear p5
              have qi5 : (0 < (a0.size : Int)) = True := eq_true (of_decide_eq_true (by first | (with_reducible assumption) | assumption))
              replace q5 := eq_true q5
              have p10 : 0 ≤ ((ji7) : Int) := of_decide_eq_true (by first | (with_reducible assumption) | assumption)
              have q10 : (ji7) < (a0.size : Int) := of_decide_eq_true (by first | (with_reducible assumption) | assumption)
              have hx10 := bt_at a0 (ji7)
              replace p10 := eq_true p10
              replace q10 := eq_true q10
              go_wp2
              go_meet
              case rel => exact ⟨_, (((bt a0 (ji7)) == 32)), (by first | rfl | (simp; done) | (simp only [← hji7] <;> (first | rfl | simp)) | (simp [*]; done)), H', ⟨by first | omega | exact Nat.le_refl _⟩, by repeat (first | exact Drawn0.refl _ | apply Drawn0.step)⟩
            · rw [if_neg c9] at H
              exact absurd H (by simp)
          · rw [if_neg c8] at H
            exact absurd H (by simp)
      · rw [if_neg c4] at H
        exact absurd H (by simp)
  case rest =>
    clear HC2
    try clear p1
    try clear q1
    try clear hx1
    try clear p2
    try clear c3
    try clear c3b0
    try clear c3b1
    try clear c4
    try clear c4b0
    try clear c4b1
    try clear p5
    try clear q5
    try clear hx5
    try clear qi5
    try clear c6
    try clear c6b0
    try clear c6b1
    try clear p6
    try clear c8
    try clear c8b0
    try clear c9
    try clear c9b0
    try clear p10
    try clear q10
    try clear hx10
    try clear p10
    try clear p5
    try clear q10
    try clear q5
    obtain ⟨kq, x19_1, rfl, HA, HJ1, ⟨mc1, rfl⟩⟩ := hcut
    cases kq with
    | zero => exact absurd HA.out (by simp [salchowref09_Title.j0])
    | succ kj1 =>
      have H := HA.out
      clear HA
      simp only [salchowref09_Title.j0] at H
      by_cases c11 : x19_1 = true
      · subst c11
        have H1 : (some 2) = some r := by rw [if_pos rfl] at H; exact H
        clear H
        have H := H1
        clear H1
        obtain rfl := Option.some.inj H
        go_wp2
        go_ret
        exact ⟨by first | rfl | (simp; done) | (simp [*]; done) | (simp <;> rfl), by repeat (first | exact Drawn0.refl _ | apply Drawn0.step)⟩
      · replace c11 := Bool.eq_false_iff.mpr c11
        subst c11
        have H1 : (salchowref09_Title.l0 kj1 a0 0) = some r := by rw [if_neg (show ¬ (false = true) by decide)] at H; exact H
        clear H
        have H := H1
        clear H1
        have H' := Aside0.mk H
        clear H
        go_wp2
        go_loopg [3] kj1 (fun kq v3 w' => ∃ (x3_2 : Int), v3 = .int .i64 x3_2 ∧ Aside0 (salchowref09_Title.l0 kq a0 x3_2 = some r) ∧ Aside0 (kq ≤ kj1) ∧ Drawn0 w w')
        case atStart => exact ⟨(0), (by first | rfl | (simp; done) | (simp [*]; done) | (simp <;> rfl)), H', ⟨Nat.le_refl _⟩, by repeat (first | exact Drawn0.refl _ | apply Drawn0.step)⟩
        case round =>
          clear H'
          try clear c1
          try clear p1
          try clear q1
          try clear hx1
          try clear p2
          try clear c3
          try clear c3b0
          try clear c3b1
          try clear c4
          try clear c4b0
          try clear c4b1
          try clear p5
          try clear q5
          try clear hx5
          try clear qi5
          try clear c6
          try clear c6b0
          try clear c6b1
          try clear p6
          try clear c8
          try clear c8b0
          try clear c9
          try clear c9b0
          try clear p10
          try clear q10
          try clear hx10
          try clear c11
          try clear p1
          try clear p10
          try clear p2
          try clear p5
          try clear p6
          try clear q1
          try clear q10
          try clear q5
          obtain ⟨x3_2, rfl, HA, HK2, ⟨m2, rfl⟩⟩ := hrel
          cases gk with
          | zero => exact absurd HA.out (by simp [salchowref09_Title.l0])
          | succ k2 =>
            have H := HA.out
            clear HA
            simp only [salchowref09_Title.l0] at H
            by_cases c12 : x3_2 < (a0.size : Int)
            · rw [if_pos c12] at H
              have c12b0 : decide (x3_2 < (a0.size : Int)) = true := decide_eq_true c12
              clear c12
              by_cases c13 : 0 ≤ x3_2
              · rw [if_pos c13] at H
                have c13b0 : decide (0 ≤ x3_2) = true := decide_eq_true c13
                clear c13
                by_cases c15 : (bt a0 x3_2) < 32
                · rw [if_pos c15] at H
                  have c15b0 : decide ((bt a0 x3_2) < 32) = true := decide_eq_true c15
                  clear c15
                  obtain rfl := Option.some.inj H
                  have p14 : 0 ≤ (x3_2 : Int) := of_decide_eq_true (by first | (with_reducible assumption) | assumption)
                  have q14 : x3_2 < (a0.size : Int) := of_decide_eq_true (by first | (with_reducible assumption) | assumption)
                  have hx14 := bt_at a0 x3_2
                  replace p14 := eq_true p14
                  replace q14 := eq_true q14
                  go_wp2
                  go_ret
                  exact ⟨by first | rfl | (simp; done) | (simp [*]; done) | (simp <;> rfl), by repeat (first | exact Drawn0.refl _ | apply Drawn0.step)⟩
                · rw [if_neg c15] at H
                  have c15b0 : decide ((bt a0 x3_2) < 32) = false := decide_eq_false c15
                  clear c15
                  by_cases c17 : (bt a0 x3_2) > 126
                  · rw [if_pos c17] at H
                    have c17b0 : decide (126 < (bt a0 x3_2)) = true := decide_eq_true c17
                    clear c17
                    obtain rfl := Option.some.inj H
                    have p14 : 0 ≤ (x3_2 : Int) := of_decide_eq_true (by first | (with_reducible assumption) | assumption)
                    have q14 : x3_2 < (a0.size : Int) := of_decide_eq_true (by first | (with_reducible assumption) | assumption)
                    have hx14 := bt_at a0 x3_2
                    replace p14 := eq_true p14
                    replace q14 := eq_true q14
                    have p16 : 0 ≤ (x3_2 : Int) := of_decide_eq_true (by first | (with_reducible assumption) | assumption)
                    have q16 : x3_2 < (a0.size : Int) := of_decide_eq_true (by first | (with_reducible assumption) | assumption)
                    have hx16 := bt_at a0 x3_2
                    replace p16 := eq_true p16
                    replace q16 := eq_true q16
                    go_wp2
                    go_ret
                    exact ⟨by first | rfl | (simp; done) | (simp [*]; done) | (simp <;> rfl), by repeat (first | exact Drawn0.refl _ | apply Drawn0.step)⟩
                  · rw [if_neg c17] at H
                    have c17b0 : decide (126 < (bt a0 x3_2)) = false := decide_eq_false c17
                    clear c17
                    by_cases c19 : (bt a0 x3_2) = 34
                    · rw [if_pos c19] at H
                      have c19b0 : ((bt a0 x3_2) == 34) = true := beq_iff_eq.mpr c19
                      have c19b1 : ((bt a0 x3_2) != 34) = false := bne_eq_false_iff_eq.mpr c19
                      clear c19
                      obtain rfl := Option.some.inj H
                      have p14 : 0 ≤ (x3_2 : Int) := of_decide_eq_true (by first | (with_reducible assumption) | assumption)
                      have q14 : x3_2 < (a0.size : Int) := of_decide_eq_true (by first | (with_reducible assumption) | assumption)
                      have hx14 := bt_at a0 x3_2
                      replace p14 := eq_true p14
                      replace q14 := eq_true q14
                      have p16 : 0 ≤ (x3_2 : Int) := of_decide_eq_true (by first | (with_reducible assumption) | assumption)
                      have q16 : x3_2 < (a0.size : Int) := of_decide_eq_true (by first | (with_reducible assumption) | assumption)
                      have hx16 := bt_at a0 x3_2
                      replace p16 := eq_true p16
                      replace q16 := eq_true q16
                      have p18 : 0 ≤ (x3_2 : Int) := of_decide_eq_true (by first | (with_reducible assumption) | assumption)
                      have q18 : x3_2 < (a0.size : Int) := of_decide_eq_true (by first | (with_reducible assumption) | assumption)
                      have hx18 := bt_at a0 x3_2
                      replace p18 := eq_true p18
                      replace q18 := eq_true q18
                      go_wp2
                      go_ret
                      exact ⟨by first | rfl | (simp; done) | (simp [*]; done) | (simp <;> rfl), by repeat (first | exact Drawn0.refl _ | apply Drawn0.step)⟩
                    · rw [if_neg c19] at H
                      have c19b0 : ((bt a0 x3_2) == 34) = false := beq_eq_false_iff_ne.mpr c19
                      have c19b1 : ((bt a0 x3_2) != 34) = true := bne_iff_ne.mpr c19
                      have H' := Aside0.mk H
                      clear H
                      have p14 : 0 ≤ (x3_2 : Int) := of_decide_eq_true (by first | (with_reducible assumption) | assumption)
                      have q14 : x3_2 < (a0.size : Int) := of_decide_eq_true (by first | (with_reducible assumption) | assumption)
                      have hx14 := bt_at a0 x3_2
                      replace p14 := eq_true p14
                      replace q14 := eq_true q14
                      have p16 : 0 ≤ (x3_2 : Int) := of_decide_eq_true (by first | (with_reducible assumption) | assumption)
                      have q16 : x3_2 < (a0.size : Int) := of_decide_eq_true (by first | (with_reducible assumption) | assumption)
                      have hx16 := bt_at a0 x3_2
                      replace p16 := eq_true p16
                      replace q16 := eq_true q16
                      have p18 : 0 ≤ (x3_2 : Int) := of_decide_eq_true (by first | (with_reducible assumption) | assumption)
                      have q18 : x3_2 < (a0.size : Int) := of_decide_eq_true (by first | (with_reducible assumption) | assumption)
                      have hx18 := bt_at a0 x3_2
                      replace p18 := eq_true p18
                      replace q18 := eq_true q18
                      go_wp2
                      go_roundg k2
                      case measure => have := HJ1.out; have := HK2.out; omega
                      case rel => exact ⟨(wrap64 (x3_2 + 1)), (by first | rfl | (simp; done) | (simp [*]; done) | (simp <;> rfl)), H', ⟨by have := HJ1.out; have := HK2.out; omega⟩, by repeat (first | exact Drawn0.refl _ | apply Drawn0.step)⟩
              · rw [if_neg c13] at H
                exact absurd H (by simp)
            · rw [if_neg c12] at H
              have c12b0 : decide (x3_2 < (a0.size : Int)) = false := decide_eq_false c12
              clear c12
              by_cases c20 : (a0.size : Int) > 40
              · rw [if_pos c20] at H
                have c20b0 : decide (40 < (a0.size : Int)) = true := decide_eq_true c20
                have c20b1 : decide (40 < a0.size) = true := decide_eq_true (by omega)
                clear c20
                obtain rfl := Option.some.inj H
                go_wp2
                go_ret
                exact ⟨by first | rfl | (simp; done) | (simp [*]; done) | (simp <;> rfl), by repeat (first | exact Drawn0.refl _ | apply Drawn0.step)⟩
              · rw [if_neg c20] at H
                have c20b0 : decide (40 < (a0.size : Int)) = false := decide_eq_false c20
                have c20b1 : decide (40 < a0.size) = false := decide_eq_false (by omega)
                clear c20
                obtain rfl := Option.some.inj H
                go_wp2
                go_ret
                exact ⟨by first | rfl | (simp; done) | (simp [*]; done) | (simp <;> rfl), by repeat (first | exact Drawn0.refl _ | apply Drawn0.step)⟩
end Go.Proofs.YtkifdadhojbohaaDoor.Pr
namespace Go.Proofs.YtkifdadhojbohaaDoor.Pr
open Go.Proofs.YtkifdadhojbohaaDoor
open Go.RowKit Go.Proofs.YtkifdadhojbohaaDoorW.PrintWords Go.Proofs.YtkifdadhojbohaaDoorW.PrintLast Go.Proofs.YtkifdadhojbohaaDoorW.PrintMore
attribute [local go_sem] max2_int min2_int max_two min_two max_three min_three max_four min_four   -- for this text's walks alone
set_option linter.unusedVariables false
set_option linter.unusedSimpArgs false
/-! ### salchowref09_sign: function 95 -/
def salchowref09_sign.l0 : Nat → Int → Int → Option (Bool)
  | 0, _, _ => none
  | k + 1, x0, x3 => if x3 < 11 then (if 0 ≤ x3 then (if (bt (⟨#[40, 41, 43, 45, 42, 47, 44, 61, 59, 123, 125]⟩ : ByteArray) x3) = x0 then (some true) else (salchowref09_sign.l0 k x0 (wrap64 (x3 + 1)))) else (none)) else (some false)
def salchowref09_sign.f (k : Nat) (a0 : Int) : Option (Bool) := salchowref09_sign.l0 k a0 0
theorem salchowref09_sign.mono_l : ∀ k, (∀ y0 y1, LeO (salchowref09_sign.l0 k y0 y1) (salchowref09_sign.l0 (k + 1) y0 y1))
  | 0 => fun _ _ r h => by simp [salchowref09_sign.l0] at h
  | k + 1 => by
    have ih0 := salchowref09_sign.mono_l k
    · intro y0 y1
      unfold salchowref09_sign.l0
      repeat' first
      | (with_reducible exact ih0 _ _)
      | (with_reducible exact LeO.refl _)
      | (with_reducible exact LeO.none _)
      | (with_reducible refine LeO.ite ?_ ?_)
      | (with_reducible refine LeO.bind ?_ (fun _ => ?_))
      | exact ih0 _ _
      | exact LeO.none _
      | refine LeO.ite ?_ ?_
      | refine LeO.bind ?_ (fun _ => ?_)
theorem salchowref09_sign.mono : ∀ a0 k, LeO (salchowref09_sign.f k a0) (salchowref09_sign.f (k + 1) a0) := by
  intro a0 k
  have ih0 := salchowref09_sign.mono_l k
  unfold salchowref09_sign.f
  repeat' first
      | (with_reducible exact ih0 _ _)
      | (with_reducible exact LeO.refl _)
      | (with_reducible exact LeO.none _)
      | (with_reducible refine LeO.ite ?_ ?_)
      | (with_reducible refine LeO.bind ?_ (fun _ => ?_))
      | exact ih0 _ _
      | exact LeO.none _
      | refine LeO.ite ?_ ?_
      | refine LeO.bind ?_ (fun _ => ?_)
set_option maxHeartbeats 8000000 in
set_option maxRecDepth 100000 in
theorem salchowref09_sign.calls (k : Nat) (a0 : Int) (r : Bool) (w : World) (h : salchowref09_sign.f k a0 = some r) :
    Calls Tryd.prog 95 #[.int .u8 a0] w fun e w' => e = .returned (.bool r) ∧ Drawn0 w w' := by
  have H : (salchowref09_sign.l0 k a0 0) = some r := h
  clear h
  have H' := Aside0.mk H
  clear H
  go_enter Tryd.func95, Tryd.ntmps95
  go_wp2
  go_loopg [3] k (fun kq v3 w' => ∃ (x3_1 : Int), v3 = .int .i64 x3_1 ∧ Aside0 (salchowref09_sign.l0 kq a0 x3_1 = some r) ∧ Aside0 (kq ≤ k) ∧ Drawn0 w w')
  case atStart => exact ⟨(0), (by first | rfl | (simp; done) | (simp [*]; done) | (simp <;> rfl)), H', ⟨Nat.le_refl _⟩, by repeat (first | exact Drawn0.refl _ | apply Drawn0.step)⟩
  case round =>
    clear H'
    obtain ⟨x3_1, rfl, HA, HK1, ⟨m1, rfl⟩⟩ := hrel
    cases gk with
    | zero => exact absurd HA.out (by simp [salchowref09_sign.l0])
    | succ k1 =>
      have H := HA.out
      clear HA
      simp only [salchowref09_sign.l0] at H
      by_cases c2 : x3_1 < 11
      · rw [if_pos c2] at H
        have c2b0 : decide (x3_1 < 11) = true := decide_eq_true c2
        clear c2
        by_cases c3 : 0 ≤ x3_1
        · rw [if_pos c3] at H
          have c3b0 : decide (0 ≤ x3_1) = true := decide_eq_true c3
          clear c3
          by_cases c5 : (bt (⟨#[40, 41, 43, 45, 42, 47, 44, 61, 59, 123, 125]⟩ : ByteArray) x3_1) = a0
          · rw [if_pos c5] at H
            have c5b0 : ((bt (⟨#[40, 41, 43, 45, 42, 47, 44, 61, 59, 123, 125]⟩ : ByteArray) x3_1) == a0) = true := beq_iff_eq.mpr c5
            have c5b1 : ((bt (⟨#[40, 41, 43, 45, 42, 47, 44, 61, 59, 123, 125]⟩ : ByteArray) x3_1) != a0) = false := bne_eq_false_iff_eq.mpr c5
            clear c5
            obtain rfl := Option.some.inj H
            have p4 : 0 ≤ (x3_1 : Int) := of_decide_eq_true (by first | (with_reducible assumption) | assumption)
            have q4 : x3_1 < (11 : Int) := of_decide_eq_true (by first | (with_reducible assumption) | assumption)
            have hx4 := bt_at (⟨#[40, 41, 43, 45, 42, 47, 44, 61, 59, 123, 125]⟩ : ByteArray) x3_1
            replace p4 := eq_true p4
            replace q4 := eq_true q4
            go_wp2
            go_ret
            exact ⟨by first | rfl | (simp; done) | (simp [*]; done) | (simp <;> rfl), by repeat (first | exact Drawn0.refl _ | apply Drawn0.step)⟩
          · rw [if_neg c5] at H
            have c5b0 : ((bt (⟨#[40, 41, 43, 45, 42, 47, 44, 61, 59, 123, 125]⟩ : ByteArray) x3_1) == a0) = false := beq_eq_false_iff_ne.mpr c5
            have c5b1 : ((bt (⟨#[40, 41, 43, 45, 42, 47, 44, 61, 59, 123, 125]⟩ : ByteArray) x3_1) != a0) = true := bne_iff_ne.mpr c5
            have H' := Aside0.mk H
            clear H
            have p4 : 0 ≤ (x3_1 : Int) := of_decide_eq_true (by first | (with_reducible assumption) | assumption)
            have q4 : x3_1 < (11 : Int) := of_decide_eq_true (by first | (with_reducible assumption) | assumption)
            have hx4 := bt_at (⟨#[40, 41, 43, 45, 42, 47, 44, 61, 59, 123, 125]⟩ : ByteArray) x3_1
            replace p4 := eq_true p4
            replace q4 := eq_true q4
            go_wp2
            go_roundg k1
            case measure => have := HK1.out; omega
            case rel => exact ⟨(wrap64 (x3_1 + 1)), (by first | rfl | (simp; done) | (simp [*]; done) | (simp <;> rfl)), H', ⟨by have := HK1.out; omega⟩, by repeat (first | exact Drawn0.refl _ | apply Drawn0.step)⟩
        · rw [if_neg c3] at H
          exact absurd H (by simp)
      · rw [if_neg c2] at H
        have c2b0 : decide (x3_1 < 11) = false := decide_eq_false c2
        clear c2
        obtain rfl := Option.some.inj H
        go_wp2
        go_ret
        exact ⟨by first | rfl | (simp; done) | (simp [*]; done) | (simp <;> rfl), by repeat (first | exact Drawn0.refl _ | apply Drawn0.step)⟩
end Go.Proofs.YtkifdadhojbohaaDoor.Pr
namespace Go.Proofs.YtkifdadhojbohaaDoor.Pr
open Go.Proofs.YtkifdadhojbohaaDoor
open Go.RowKit Go.Proofs.YtkifdadhojbohaaDoorW.PrintWords Go.Proofs.YtkifdadhojbohaaDoorW.PrintLast Go.Proofs.YtkifdadhojbohaaDoorW.PrintMore
attribute [local go_sem] max2_int min2_int max_two min_two max_three min_three max_four min_four   -- for this text's walks alone
set_option linter.unusedVariables false
set_option linter.unusedSimpArgs false
/-! ### salchowref09_has: function 96 -/
def salchowref09_has.l0 : Nat → ByteArray → Bool → Bool → Int → Option (Bool)
  | 0, _, _, _, _ => none
  | k + 1, x0, x1, x2, x7 => if x7 < (x0.size : Int) then (if x1 = true then (if 0 ≤ x7 then ((salchowref09_letter.f (bt x0 x7)).bind fun t208 => (if t208 = true then (some true) else (if x2 = true then (if (bt x0 x7) = 46 then (some true) else (salchowref09_has.l0 k x0 x1 x2 (wrap64 (x7 + 1)))) else (salchowref09_has.l0 k x0 x1 x2 (wrap64 (x7 + 1)))))) else (none)) else (if x2 = true then (if 0 ≤ x7 then (if (bt x0 x7) = 46 then (some true) else (salchowref09_has.l0 k x0 x1 x2 (wrap64 (x7 + 1)))) else (none)) else (salchowref09_has.l0 k x0 x1 x2 (wrap64 (x7 + 1))))) else (some false)
def salchowref09_has.f (k : Nat) (a0 : ByteArray) (a1 : Bool) (a2 : Bool) : Option (Bool) := salchowref09_has.l0 k a0 a1 a2 0
theorem salchowref09_has.mono_l : ∀ k, (∀ y0 y1 y2 y3, LeO (salchowref09_has.l0 k y0 y1 y2 y3) (salchowref09_has.l0 (k + 1) y0 y1 y2 y3))
  | 0 => fun _ _ _ _ r h => by simp [salchowref09_has.l0] at h
  | k + 1 => by
    have ih0 := salchowref09_has.mono_l k
    · intro y0 y1 y2 y3
      unfold salchowref09_has.l0
      repeat' first
      | (with_reducible exact ih0 _ _ _ _)
      | (with_reducible exact LeO.refl _)
      | (with_reducible exact LeO.none _)
      | (with_reducible refine LeO.ite ?_ ?_)
      | (with_reducible refine LeO.bind ?_ (fun _ => ?_))
      | exact ih0 _ _ _ _
      | exact LeO.none _
      | refine LeO.ite ?_ ?_
      | refine LeO.bind ?_ (fun _ => ?_)
theorem salchowref09_has.mono : ∀ a0 a1 a2 k, LeO (salchowref09_has.f k a0 a1 a2) (salchowref09_has.f (k + 1) a0 a1 a2) := by
  intro a0 a1 a2 k
  have ih0 := salchowref09_has.mono_l k
  unfold salchowref09_has.f
  repeat' first
      | (with_reducible exact ih0 _ _ _ _)
      | (with_reducible exact LeO.refl _)
      | (with_reducible exact LeO.none _)
      | (with_reducible refine LeO.ite ?_ ?_)
      | (with_reducible refine LeO.bind ?_ (fun _ => ?_))
      | exact ih0 _ _ _ _
      | exact LeO.none _
      | refine LeO.ite ?_ ?_
      | refine LeO.bind ?_ (fun _ => ?_)
set_option maxHeartbeats 8000000 in
set_option maxRecDepth 100000 in
theorem salchowref09_has.calls (k : Nat) (a0 : ByteArray) (a1 : Bool) (a2 : Bool) (r : Bool) (w : World) (h : salchowref09_has.f k a0 a1 a2 = some r) :
    Calls Tryd.prog 96 #[.string a0, .bool a1, .bool a2] w fun e w' => e = .returned (.bool r) ∧ Drawn0 w w' := by
  have H : (salchowref09_has.l0 k a0 a1 a2 0) = some r := h
  clear h
  have H' := Aside0.mk H
  clear H
  go_enter Tryd.func96, Tryd.ntmps96
  go_wp2
  go_loopg [7] k (fun kq v7 w' => ∃ (x7_1 : Int), v7 = .int .i64 x7_1 ∧ Aside0 (salchowref09_has.l0 kq a0 a1 a2 x7_1 = some r) ∧ Aside0 (kq ≤ k) ∧ Drawn0 w w')
  case atStart => exact ⟨(0), (by first | rfl | (simp; done) | (simp [*]; done) | (simp <;> rfl)), H', ⟨Nat.le_refl _⟩, by repeat (first | exact Drawn0.refl _ | apply Drawn0.step)⟩
  case round =>
    clear H'
    try clear p2
    obtain ⟨x7_1, rfl, HA, HK1, ⟨m1, rfl⟩⟩ := hrel
    cases gk with
    | zero => exact absurd HA.out (by simp [salchowref09_has.l0])
    | succ k1 =>
      have H := HA.out
      clear HA
      simp only [salchowref09_has.l0] at H
      by_cases c4 : x7_1 < (a0.size : Int)
      · rw [if_pos c4] at H
        have c4b0 : decide (x7_1 < (a0.size : Int)) = true := decide_eq_true c4
        clear c4
        by_cases c5 : a1 = true
        · subst c5
          have H1 : (if 0 ≤ x7_1 then ((salchowref09_letter.f (bt a0 x7_1)).bind fun t208 => (if t208 = true then (some true) else (if a2 = true then (if (bt a0 x7_1) = 46 then (some true) else (salchowref09_has.l0 k1 a0 true a2 (wrap64 (x7_1 + 1)))) else (salchowref09_has.l0 k1 a0 true a2 (wrap64 (x7_1 + 1)))))) else (none)) = some r := by rw [if_pos rfl] at H; exact H
          clear H
          have H := H1
          clear H1
          by_cases c6 : 0 ≤ x7_1
          · rw [if_pos c6] at H
            have c6b0 : decide (0 ≤ x7_1) = true := decide_eq_true c6
            clear c6
            replace H := Option.bind_eq_some_iff.mp H
            obtain ⟨t208, A80, H⟩ := H
            replace H : (if t208 = true then (some true) else (if a2 = true then (if (bt a0 x7_1) = 46 then (some true) else (salchowref09_has.l0 k1 a0 true a2 (wrap64 (x7_1 + 1)))) else (salchowref09_has.l0 k1 a0 true a2 (wrap64 (x7_1 + 1))))) = some r := H
            have A8 := Aside0.mk A80
            clear A80
            by_cases c9 : t208 = true
            · subst c9
              have H1 : (some true) = some r := by rw [if_pos rfl] at H; exact H
              clear H
              have H := H1
              clear H1
              obtain rfl := Option.some.inj H
              have p7 : 0 ≤ (x7_1 : Int) := of_decide_eq_true (by first | (with_reducible assumption) | assumption)
              have q7 : x7_1 < (a0.size : Int) := of_decide_eq_true (by first | (with_reducible assumption) | assumption)
              have hx7 := bt_at a0 x7_1
              replace p7 := eq_true p7
              replace q7 := eq_true q7
              go_wp2_with (first | (go_at_call 115; (with_reducible refine (salchowref09_letter.calls (bt a0 x7_1) true _ A8.out).mono ?_); rintro e w' ⟨rfl, ⟨nd, rfl⟩⟩))
              go_ret
              exact ⟨by first | rfl | (simp; done) | (simp [*]; done) | (simp <;> rfl), by repeat (first | exact Drawn0.refl _ | apply Drawn0.step)⟩
            · replace c9 := Bool.eq_false_iff.mpr c9
              subst c9
              have H1 : (if a2 = true then (if (bt a0 x7_1) = 46 then (some true) else (salchowref09_has.l0 k1 a0 true a2 (wrap64 (x7_1 + 1)))) else (salchowref09_has.l0 k1 a0 true a2 (wrap64 (x7_1 + 1)))) = some r := by rw [if_neg (show ¬ (false = true) by decide)] at H; exact H
              clear H
              have H := H1
              clear H1
              by_cases c10 : a2 = true
              · subst c10
                have H1 : (if (bt a0 x7_1) = 46 then (some true) else (salchowref09_has.l0 k1 a0 true true (wrap64 (x7_1 + 1)))) = some r := by rw [if_pos rfl] at H; exact H
                clear H
                have H := H1
                clear H1
                by_cases c12 : (bt a0 x7_1) = 46
                · rw [if_pos c12] at H
                  have c12b0 : ((bt a0 x7_1) == 46) = true := beq_iff_eq.mpr c12
                  have c12b1 : ((bt a0 x7_1) != 46) = false := bne_eq_false_iff_eq.mpr c12
                  clear c12
                  obtain rfl := Option.some.inj H
                  have p7 : 0 ≤ (x7_1 : Int) := of_decide_eq_true (by first | (with_reducible assumption) | assumption)
                  have q7 : x7_1 < (a0.size : Int) := of_decide_eq_true (by first | (with_reducible assumption) | assumption)
                  have hx7 := bt_at a0 x7_1
                  replace p7 := eq_true p7
                  replace q7 := eq_true q7
                  go_wp2_with (first | (go_at_call 115; (with_reducible refine (salchowref09_letter.calls (bt a0 x7_1) false _ A8.out).mono ?_); rintro e w' ⟨rfl, ⟨nd, rfl⟩⟩; have p11 : 0 ≤ (x7_1 : Int) := of_decide_eq_true (by first | (with_reducible assumption) | assumption); have q11 : x7_1 < (a0.size : Int) := of_decide_eq_true (by first | (with_reducible assumption) | assumption); have hx11 := bt_at a0 x7_1; replace p11 := eq_true p11; replace q11 := eq_true q11))
                  go_ret
                  exact ⟨by first | rfl | (simp; done) | (simp [*]; done) | (simp <;> rfl), by repeat (first | exact Drawn0.refl _ | apply Drawn0.step)⟩
                · rw [if_neg c12] at H
                  have c12b0 : ((bt a0 x7_1) == 46) = false := beq_eq_false_iff_ne.mpr c12
                  have c12b1 : ((bt a0 x7_1) != 46) = true := bne_iff_ne.mpr c12
                  have H' := Aside0.mk H
                  clear H
                  have p7 : 0 ≤ (x7_1 : Int) := of_decide_eq_true (by first | (with_reducible assumption) | assumption)
                  have q7 : x7_1 < (a0.size : Int) := of_decide_eq_true (by first | (with_reducible assumption) | assumption)
                  have hx7 := bt_at a0 x7_1
                  replace p7 := eq_true p7
                  replace q7 := eq_true q7
                  go_wp2_with (first | (go_at_call 115; (with_reducible refine (salchowref09_letter.calls (bt a0 x7_1) false _ A8.out).mono ?_); rintro e w' ⟨rfl, ⟨nd, rfl⟩⟩; have p11 : 0 ≤ (x7_1 : Int) := of_decide_eq_true (by first | (with_reducible assumption) | assumption); have q11 : x7_1 < (a0.size : Int) := of_decide_eq_true (by first | (with_reducible assumption) | assumption); have hx11 := bt_at a0 x7_1; replace p11 := eq_true p11; replace q11 := eq_true q11))
                  go_roundg k1
                  case measure => have := HK1.out; omega
                  case rel => exact ⟨(wrap64 (x7_1 + 1)), (by first | rfl | (simp; done) | (simp [*]; done) | (simp <;> rfl)), H', ⟨by have := HK1.out; omega⟩, by repeat (first | exact Drawn0.refl _ | apply Drawn0.step)⟩
              · replace c10 := Bool.eq_false_iff.mpr c10
                subst c10
                have H1 : (salchowref09_has.l0 k1 a0 true false (wrap64 (x7_1 + 1))) = some r := by rw [if_neg (show ¬ (false = true) by decide)] at H; exact H
                clear H
                have H := H1
                clear H1
                have H' := Aside0.mk H
                clear H
                have p7 : 0 ≤ (x7_1 : Int) := of_decide_eq_true (by first | (with_reducible assumption) | assumption)
                have q7 : x7_1 < (a0.size : Int) := of_decide_eq_true (by first | (with_reducible assumption) | assumption)
                have hx7 := bt_at a0 x7_1
                replace p7 := eq_true p7
                replace q7 := eq_true q7
                go_wp2_with (first | (go_at_call 115; (with_reducible refine (salchowref09_letter.calls (bt a0 x7_1) false _ A8.out).mono ?_); rintro e w' ⟨rfl, ⟨nd, rfl⟩⟩))
                go_roundg k1
                case measure => have := HK1.out; omega
                case rel => exact ⟨(wrap64 (x7_1 + 1)), (by first | rfl | (simp; done) | (simp [*]; done) | (simp <;> rfl)), H', ⟨by have := HK1.out; omega⟩, by repeat (first | exact Drawn0.refl _ | apply Drawn0.step)⟩
          · rw [if_neg c6] at H
            exact absurd H (by simp)
        · replace c5 := Bool.eq_false_iff.mpr c5
          subst c5
          have H1 : (if a2 = true then (if 0 ≤ x7_1 then (if (bt a0 x7_1) = 46 then (some true) else (salchowref09_has.l0 k1 a0 false a2 (wrap64 (x7_1 + 1)))) else (none)) else (salchowref09_has.l0 k1 a0 false a2 (wrap64 (x7_1 + 1)))) = some r := by rw [if_neg (show ¬ (false = true) by decide)] at H; exact H
          clear H
          have H := H1
          clear H1
          by_cases c13 : a2 = true
          · subst c13
            have H1 : (if 0 ≤ x7_1 then (if (bt a0 x7_1) = 46 then (some true) else (salchowref09_has.l0 k1 a0 false true (wrap64 (x7_1 + 1)))) else (none)) = some r := by rw [if_pos rfl] at H; exact H
            clear H
            have H := H1
            clear H1
            by_cases c14 : 0 ≤ x7_1
            · rw [if_pos c14] at H
              have c14b0 : decide (0 ≤ x7_1) = true := decide_eq_true c14
              clear c14
              by_cases c16 : (bt a0 x7_1) = 46
              · rw [if_pos c16] at H
                have c16b0 : ((bt a0 x7_1) == 46) = true := beq_iff_eq.mpr c16
                have c16b1 : ((bt a0 x7_1) != 46) = false := bne_eq_false_iff_eq.mpr c16
                clear c16
                obtain rfl := Option.some.inj H
                have p15 : 0 ≤ (x7_1 : Int) := of_decide_eq_true (by first | (with_reducible assumption) | assumption)
                have q15 : x7_1 < (a0.size : Int) := of_decide_eq_true (by first | (with_reducible assumption) | assumption)
                have hx15 := bt_at a0 x7_1
                replace p15 := eq_true p15
                replace q15 := eq_true q15
                go_wp2
                go_ret
                exact ⟨by first | rfl | (simp; done) | (simp [*]; done) | (simp <;> rfl), by repeat (first | exact Drawn0.refl _ | apply Drawn0.step)⟩
              · rw [if_neg c16] at H
                have c16b0 : ((bt a0 x7_1) == 46) = false := beq_eq_false_iff_ne.mpr c16
                have c16b1 : ((bt a0 x7_1) != 46) = true := bne_iff_ne.mpr c16
                have H' := Aside0.mk H
                clear H
                have p15 : 0 ≤ (x7_1 : Int) := of_decide_eq_true (by first | (with_reducible assumption) | assumption)
                have q15 : x7_1 < (a0.size : Int) := of_decide_eq_true (by first | (with_reducible assumption) | assumption)
                have hx15 := bt_at a0 x7_1
                replace p15 := eq_true p15
                replace q15 := eq_true q15
                go_wp2
                go_roundg k1
                case measure => have := HK1.out; omega
                case rel => exact ⟨(wrap64 (x7_1 + 1)), (by first | rfl | (simp; done) | (simp [*]; done) | (simp <;> rfl)), H', ⟨by have := HK1.out; omega⟩, by repeat (first | exact Drawn0.refl _ | apply Drawn0.step)⟩
            · rw [if_neg c14] at H
              exact absurd H (by simp)
          · replace c13 := Bool.eq_false_iff.mpr c13
            subst c13
            have H1 : (salchowref09_has.l0 k1 a0 false false (wrap64 (x7_1 + 1))) = some r := by rw [if_neg (show ¬ (false = true) by decide)] at H; exact H
            clear H
            have H := H1
            clear H1
            have H' := Aside0.mk H
            clear H
            go_wp2
            go_roundg k1
            case measure => have := HK1.out; omega
            case rel => exact ⟨(wrap64 (x7_1 + 1)), (by first | rfl | (simp; done) | (simp [*]; done) | (simp <;> rfl)), H', ⟨by have := HK1.out; omega⟩, by repeat (first | exact Drawn0.refl _ | apply Drawn0.step)⟩
      · rw [if_neg c4] at H
        have c4b0 : decide (x7_1 < (a0.size : Int)) = false := decide_eq_false c4
        clear c4
        obtain rfl := Option.some.inj H
        go_wp2
        go_ret
        exact ⟨by first | rfl | (simp; done) | (simp [*]; done) | (simp <;> rfl), by repeat (first | exact Drawn0.refl _ | apply Drawn0.step)⟩
end Go.Proofs.YtkifdadhojbohaaDoor.Pr
namespace Go.Proofs.YtkifdadhojbohaaDoor.Pr
open Go.Proofs.YtkifdadhojbohaaDoor
open Go.RowKit Go.Proofs.YtkifdadhojbohaaDoorW.PrintWords Go.Proofs.YtkifdadhojbohaaDoorW.PrintLast Go.Proofs.YtkifdadhojbohaaDoorW.PrintMore
attribute [local go_sem] max2_int min2_int max_two min_two max_three min_three max_four min_four   -- for this text's walks alone
set_option linter.unusedVariables false
set_option linter.unusedSimpArgs false
/-! ### salchowref09_digits: function 117 -/
def salchowref09_digits.l0 : Nat → ByteArray → Int → Option (Bool)
  | 0, _, _ => none
  | k + 1, x0, x3 => if x3 < (x0.size : Int) then (if 0 ≤ x3 then ((salchowref09_digit.f (bt x0 x3)).bind fun t209 => (if t209 = true then (salchowref09_digits.l0 k x0 (wrap64 (x3 + 1))) else (some false))) else (none)) else (some (decide ((x0.size : Int) > 0)))
def salchowref09_digits.f (k : Nat) (a0 : ByteArray) : Option (Bool) := salchowref09_digits.l0 k a0 0
theorem salchowref09_digits.mono_l : ∀ k, (∀ y0 y1, LeO (salchowref09_digits.l0 k y0 y1) (salchowref09_digits.l0 (k + 1) y0 y1))
  | 0 => fun _ _ r h => by simp [salchowref09_digits.l0] at h
  | k + 1 => by
    have ih0 := salchowref09_digits.mono_l k
    · intro y0 y1
      unfold salchowref09_digits.l0
      repeat' first
      | (with_reducible exact ih0 _ _)
      | (with_reducible exact LeO.refl _)
      | (with_reducible exact LeO.none _)
      | (with_reducible refine LeO.ite ?_ ?_)
      | (with_reducible refine LeO.bind ?_ (fun _ => ?_))
      | exact ih0 _ _
      | exact LeO.none _
      | refine LeO.ite ?_ ?_
      | refine LeO.bind ?_ (fun _ => ?_)
theorem salchowref09_digits.mono : ∀ a0 k, LeO (salchowref09_digits.f k a0) (salchowref09_digits.f (k + 1) a0) := by
  intro a0 k
  have ih0 := salchowref09_digits.mono_l k
  unfold salchowref09_digits.f
  repeat' first
      | (with_reducible exact ih0 _ _)
      | (with_reducible exact LeO.refl _)
      | (with_reducible exact LeO.none _)
      | (with_reducible refine LeO.ite ?_ ?_)
      | (with_reducible refine LeO.bind ?_ (fun _ => ?_))
      | exact ih0 _ _
      | exact LeO.none _
      | refine LeO.ite ?_ ?_
      | refine LeO.bind ?_ (fun _ => ?_)
set_option maxHeartbeats 8000000 in
set_option maxRecDepth 100000 in
theorem salchowref09_digits.calls (k : Nat) (a0 : ByteArray) (r : Bool) (w : World) (h : salchowref09_digits.f k a0 = some r) :
    Calls Tryd.prog 117 #[.string a0] w fun e w' => e = .returned (.bool r) ∧ Drawn0 w w' := by
  have H : (salchowref09_digits.l0 k a0 0) = some r := h
  clear h
  have H' := Aside0.mk H
  clear H
  go_enter Tryd.func117, Tryd.ntmps117
  go_wp2
  go_loopg [3] k (fun kq v3 w' => ∃ (x3_1 : Int), v3 = .int .i64 x3_1 ∧ Aside0 (salchowref09_digits.l0 kq a0 x3_1 = some r) ∧ Aside0 (kq ≤ k) ∧ Drawn0 w w')
  case atStart => exact ⟨(0), (by first | rfl | (simp; done) | (simp [*]; done) | (simp <;> rfl)), H', ⟨Nat.le_refl _⟩, by repeat (first | exact Drawn0.refl _ | apply Drawn0.step)⟩
  case round =>
    clear H'
    try clear c1
    obtain ⟨x3_1, rfl, HA, HK1, ⟨m1, rfl⟩⟩ := hrel
    cases gk with
    | zero => exact absurd HA.out (by simp [salchowref09_digits.l0])
    | succ k1 =>
      have H := HA.out
      clear HA
      simp only [salchowref09_digits.l0] at H
      by_cases c2 : x3_1 < (a0.size : Int)
      · rw [if_pos c2] at H
        have c2b0 : decide (x3_1 < (a0.size : Int)) = true := decide_eq_true c2
        clear c2
        by_cases c3 : 0 ≤ x3_1
        · rw [if_pos c3] at H
          have c3b0 : decide (0 ≤ x3_1) = true := decide_eq_true c3
          clear c3
          replace H := Option.bind_eq_some_iff.mp H
          obtain ⟨t209, A50, H⟩ := H
          replace H : (if t209 = true then (salchowref09_digits.l0 k1 a0 (wrap64 (x3_1 + 1))) else (some false)) = some r := H
          have A5 := Aside0.mk A50
          clear A50
          by_cases c6 : t209 = true
          · subst c6
            have H1 : (salchowref09_digits.l0 k1 a0 (wrap64 (x3_1 + 1))) = some r := by rw [if_pos rfl] at H; exact H
            clear H
            have H := H1
            clear H1
            have H' := Aside0.mk H
            clear H
            have p4 : 0 ≤ (x3_1 : Int) := of_decide_eq_true (by first | (with_reducible assumption) | assumption)
            have q4 : x3_1 < (a0.size : Int) := of_decide_eq_true (by first | (with_reducible assumption) | assumption)
            have hx4 := bt_at a0 x3_1
            replace p4 := eq_true p4
            replace q4 := eq_true q4
            go_wp2_with (first | ((with_reducible refine gate_callee (f := 116) rfl ?_); refine goesL_ (some 13) rfl rfl Tryd.func116 (by kernel_rfl) rfl #[.int .u8 (bt a0 x3_1)] rfl (by (try simp only [List.map_toArray, List.map_cons, List.map_nil]); first | done | rfl | (simp only [List.length_drop, List.length_take]; rfl)) ?_; (with_reducible refine (salchowref09_digit.calls (bt a0 x3_1) true _ A5.out).mono ?_); rintro e w' ⟨rfl, ⟨nd, rfl⟩⟩; refine ⟨_, rfl, ?_⟩))
            go_roundg k1
            case measure => have := HK1.out; omega
            case rel => exact ⟨(wrap64 (x3_1 + 1)), (by first | rfl | (simp; done) | (simp [*]; done) | (simp <;> rfl)), H', ⟨by have := HK1.out; omega⟩, by repeat (first | exact Drawn0.refl _ | apply Drawn0.step)⟩
          · replace c6 := Bool.eq_false_iff.mpr c6
            subst c6
            have H1 : (some false) = some r := by rw [if_neg (show ¬ (false = true) by decide)] at H; exact H
            clear H
            have H := H1
            clear H1
            obtain rfl := Option.some.inj H
            have p4 : 0 ≤ (x3_1 : Int) := of_decide_eq_true (by first | (with_reducible assumption) | assumption)
            have q4 : x3_1 < (a0.size : Int) := of_decide_eq_true (by first | (with_reducible assumption) | assumption)
            have hx4 := bt_at a0 x3_1
            replace p4 := eq_true p4
            replace q4 := eq_true q4
            go_wp2_with (first | ((with_reducible refine gate_callee (f := 116) rfl ?_); refine goesL_ (some 13) rfl rfl Tryd.func116 (by kernel_rfl) rfl #[.int .u8 (bt a0 x3_1)] rfl (by (try simp only [List.map_toArray, List.map_cons, List.map_nil]); first | done | rfl | (simp only [List.length_drop, List.length_take]; rfl)) ?_; (with_reducible refine (salchowref09_digit.calls (bt a0 x3_1) false _ A5.out).mono ?_); rintro e w' ⟨rfl, ⟨nd, rfl⟩⟩; refine ⟨_, rfl, ?_⟩))
            go_ret
            exact ⟨by first | rfl | (simp; done) | (simp [*]; done) | (simp <;> rfl), by repeat (first | exact Drawn0.refl _ | apply Drawn0.step)⟩
        · rw [if_neg c3] at H
          exact absurd H (by simp)
      · rw [if_neg c2] at H
        have c2b0 : decide (x3_1 < (a0.size : Int)) = false := decide_eq_false c2
        clear c2
        obtain rfl := Option.some.inj H
        go_wp2
        go_ret
        exact ⟨by first | rfl | (simp; done) | (simp [*]; done) | (simp <;> rfl), by repeat (first | exact Drawn0.refl _ | apply Drawn0.step)⟩
end Go.Proofs.YtkifdadhojbohaaDoor.Pr
namespace Go.Proofs.YtkifdadhojbohaaDoor.Pr
open Go.Proofs.YtkifdadhojbohaaDoor
open Go.RowKit Go.Proofs.YtkifdadhojbohaaDoorW.PrintWords Go.Proofs.YtkifdadhojbohaaDoorW.PrintLast Go.Proofs.YtkifdadhojbohaaDoorW.PrintMore
attribute [local go_sem] max2_int min2_int max_two min_two max_three min_three max_four min_four   -- for this text's walks alone
set_option linter.unusedVariables false
set_option linter.unusedSimpArgs false
/-! ### salchowref09_number: function 97 -/
mutual
def salchowref09_number.j1 : Nat → ByteArray → Int → Option (Int × Int)
  | 0, _, _ => none
  | k + 1, x0, x4 => if 0 ≤ x4 then (if x4 ≤ (x0.size : Int) then (if x4 < (x0.size : Int) then (if 0 ≤ (wrap64 (x4 + 1)) then (if (wrap64 (x4 + 1)) ≤ (x0.size : Int) then ((salchowref09_digits.f k (x0.extract ((wrap64 (x4 + 1)) : Int).toNat x0.size)).bind fun t210 => (if t210 = true then (if ((x0.extract ((wrap64 (x4 + 1)) : Int).toNat x0.size).size : Int) > 3 then (some (0, 2)) else (salchowref09_number.j2 k (x0.extract 0 (x4 : Int).toNat) (x0.extract ((wrap64 (x4 + 1)) : Int).toNat x0.size))) else (some (0, 2)))) else (none)) else (none)) else (salchowref09_number.j2 k (x0.extract 0 (x4 : Int).toNat) (⟨#[]⟩ : ByteArray))) else (none)) else (none)
def salchowref09_number.j2 : Nat → ByteArray → ByteArray → Option (Int × Int)
  | 0, _, _ => none
  | k + 1, x5, x6 => (salchowref09_digits.f k x5).bind fun t211 => (if t211 = true then (if (x5.size : Int) > 1 then (if 0 < (x5.size : Int) then (salchowref09_number.j3 k x5 x6 ((bt x5 0) == 48)) else (none)) else (salchowref09_number.j3 k x5 x6 false)) else (salchowref09_number.j3 k x5 x6 true))
def salchowref09_number.j3 : Nat → ByteArray → ByteArray → Bool → Option (Int × Int)
  | 0, _, _, _ => none
  | k + 1, x5, x6, x53 => if x53 = true then (some (0, 2)) else (if (x5.size : Int) > 10 then (some (0, 5)) else (salchowref09_number.l1 k x5 x6 0 0))
def salchowref09_number.l1 : Nat → ByteArray → ByteArray → Int → Int → Option (Int × Int)
  | 0, _, _, _, _ => none
  | k + 1, x5, x6, x7, x8 => if x8 < (x5.size : Int) then (if 0 ≤ x8 then (salchowref09_number.l1 k x5 x6 (wrap64 ((wrap64 (10 * x7)) + (((bt x5 x8) - 48) % 256))) (wrap64 (x8 + 1))) else (none)) else (salchowref09_number.l2 k x6 x7 0)
def salchowref09_number.l2 : Nat → ByteArray → Int → Int → Option (Int × Int)
  | 0, _, _, _ => none
  | k + 1, x6, x7, x9 => if x9 < 3 then (if x9 < (x6.size : Int) then (if 0 ≤ x9 then (salchowref09_number.l2 k x6 (wrap64 ((wrap64 (x7 * 10)) + (((bt x6 x9) - 48) % 256))) (wrap64 (x9 + 1))) else (none)) else (salchowref09_number.l2 k x6 (wrap64 (x7 * 10)) (wrap64 (x9 + 1)))) else (if x7 > 1000000000 then (some (0, 5)) else (some (x7, 0)))
def salchowref09_number.l0 : Nat → ByteArray → Int → Option (Int × Int)
  | 0, _, _ => none
  | k + 1, x0, x4 => if x4 < (x0.size : Int) then (if 0 ≤ x4 then (if (bt x0 x4) = 46 then (salchowref09_number.j1 k x0 x4) else (salchowref09_number.l0 k x0 (wrap64 (x4 + 1)))) else (none)) else (salchowref09_number.j1 k x0 x4)
end
def salchowref09_number.f (k : Nat) (a0 : ByteArray) : Option (Int × Int) := salchowref09_number.l0 k a0 0
theorem salchowref09_number.mono_l : ∀ k, (∀ y0 y1, LeO (salchowref09_number.j1 k y0 y1) (salchowref09_number.j1 (k + 1) y0 y1)) ∧ (∀ y0 y1, LeO (salchowref09_number.j2 k y0 y1) (salchowref09_number.j2 (k + 1) y0 y1)) ∧ (∀ y0 y1 y2, LeO (salchowref09_number.j3 k y0 y1 y2) (salchowref09_number.j3 (k + 1) y0 y1 y2)) ∧ (∀ y0 y1 y2 y3, LeO (salchowref09_number.l1 k y0 y1 y2 y3) (salchowref09_number.l1 (k + 1) y0 y1 y2 y3)) ∧ (∀ y0 y1 y2, LeO (salchowref09_number.l2 k y0 y1 y2) (salchowref09_number.l2 (k + 1) y0 y1 y2)) ∧ (∀ y0 y1, LeO (salchowref09_number.l0 k y0 y1) (salchowref09_number.l0 (k + 1) y0 y1))
  | 0 => ⟨fun _ _ r h => by simp [salchowref09_number.j1] at h, fun _ _ r h => by simp [salchowref09_number.j2] at h, fun _ _ _ r h => by simp [salchowref09_number.j3] at h, fun _ _ _ _ r h => by simp [salchowref09_number.l1] at h, fun _ _ _ r h => by simp [salchowref09_number.l2] at h, fun _ _ r h => by simp [salchowref09_number.l0] at h⟩
  | k + 1 => by
    obtain ⟨ih0, ih1, ih2, ih3, ih4, ih5⟩ := salchowref09_number.mono_l k
    refine ⟨?_, ?_, ?_, ?_, ?_, ?_⟩
    · intro y0 y1
      unfold salchowref09_number.j1
      repeat' first
      | (with_reducible exact ih0 _ _)
      | (with_reducible exact ih1 _ _)
      | (with_reducible exact ih2 _ _ _)
      | (with_reducible exact ih3 _ _ _ _)
      | (with_reducible exact ih4 _ _ _)
      | (with_reducible exact ih5 _ _)
      | (with_reducible exact salchowref09_digits.mono _ _)
      | (with_reducible exact LeO.refl _)
      | (with_reducible exact LeO.none _)
      | (with_reducible refine LeO.ite ?_ ?_)
      | (with_reducible refine LeO.bind ?_ (fun _ => ?_))
      | exact ih0 _ _
      | exact ih1 _ _
      | exact ih2 _ _ _
      | exact ih3 _ _ _ _
      | exact ih4 _ _ _
      | exact ih5 _ _
      | exact salchowref09_digits.mono _ _
      | exact LeO.none _
      | refine LeO.ite ?_ ?_
      | refine LeO.bind ?_ (fun _ => ?_)
    · intro y0 y1
      unfold salchowref09_number.j2
      repeat' first
      | (with_reducible exact ih0 _ _)
      | (with_reducible exact ih1 _ _)
      | (with_reducible exact ih2 _ _ _)
      | (with_reducible exact ih3 _ _ _ _)
      | (with_reducible exact ih4 _ _ _)
      | (with_reducible exact ih5 _ _)
      | (with_reducible exact salchowref09_digits.mono _ _)
      | (with_reducible exact LeO.refl _)
      | (with_reducible exact LeO.none _)
      | (with_reducible refine LeO.ite ?_ ?_)
      | (with_reducible refine LeO.bind ?_ (fun _ => ?_))
      | exact ih0 _ _
      | exact ih1 _ _
      | exact ih2 _ _ _
      | exact ih3 _ _ _ _
      | exact ih4 _ _ _
      | exact ih5 _ _
      | exact salchowref09_digits.mono _ _
      | exact LeO.none _
      | refine LeO.ite ?_ ?_
      | refine LeO.bind ?_ (fun _ => ?_)
    · intro y0 y1 y2
      unfold salchowref09_number.j3
      repeat' first
      | (with_reducible exact ih0 _ _)
      | (with_reducible exact ih1 _ _)
      | (with_reducible exact ih2 _ _ _)
      | (with_reducible exact ih3 _ _ _ _)
      | (with_reducible exact ih4 _ _ _)
      | (with_reducible exact ih5 _ _)
      | (with_reducible exact salchowref09_digits.mono _ _)
      | (with_reducible exact LeO.refl _)
      | (with_reducible exact LeO.none _)
      | (with_reducible refine LeO.ite ?_ ?_)
      | (with_reducible refine LeO.bind ?_ (fun _ => ?_))
      | exact ih0 _ _
      | exact ih1 _ _
      | exact ih2 _ _ _
      | exact ih3 _ _ _ _
      | exact ih4 _ _ _
      | exact ih5 _ _
      | exact salchowref09_digits.mono _ _
      | exact LeO.none _
      | refine LeO.ite ?_ ?_
      | refine LeO.bind ?_ (fun _ => ?_)
    · intro y0 y1 y2 y3
      unfold salchowref09_number.l1
      repeat' first
      | (with_reducible exact ih0 _ _)
      | (with_reducible exact ih1 _ _)
      | (with_reducible exact ih2 _ _ _)
      | (with_reducible exact ih3 _ _ _ _)
      | (with_reducible exact ih4 _ _ _)
      | (with_reducible exact ih5 _ _)
      | (with_reducible exact salchowref09_digits.mono _ _)
      | (with_reducible exact LeO.refl _)
      | (with_reducible exact LeO.none _)
      | (with_reducible refine LeO.ite ?_ ?_)
      | (with_reducible refine LeO.bind ?_ (fun _ => ?_))
      | exact ih0 _ _
      | exact ih1 _ _
      | exact ih2 _ _ _
      | exact ih3 _ _ _ _
      | exact ih4 _ _ _
      | exact ih5 _ _
      | exact salchowref09_digits.mono _ _
      | exact LeO.none _
      | refine LeO.ite ?_ ?_
      | refine LeO.bind ?_ (fun _ => ?_)
    · intro y0 y1 y2
      unfold salchowref09_number.l2
      repeat' first
      | (with_reducible exact ih0 _ _)
      | (with_reducible exact ih1 _ _)
      | (with_reducible exact ih2 _ _ _)
      | (with_reducible exact ih3 _ _ _ _)
      | (with_reducible exact ih4 _ _ _)
      | (with_reducible exact ih5 _ _)
      | (with_reducible exact salchowref09_digits.mono _ _)
      | (with_reducible exact LeO.refl _)
      | (with_reducible exact LeO.none _)
      | (with_reducible refine LeO.ite ?_ ?_)
      | (with_reducible refine LeO.bind ?_ (fun _ => ?_))
      | exact ih0 _ _
      | exact ih1 _ _
      | exact ih2 _ _ _
      | exact ih3 _ _ _ _
      | exact ih4 _ _ _
      | exact ih5 _ _
      | exact salchowref09_digits.mono _ _
      | exact LeO.none _
      | refine LeO.ite ?_ ?_
      | refine LeO.bind ?_ (fun _ => ?_)
    · intro y0 y1
      unfold salchowref09_number.l0
      repeat' first
      | (with_reducible exact ih0 _ _)
      | (with_reducible exact ih1 _ _)
      | (with_reducible exact ih2 _ _ _)
      | (with_reducible exact ih3 _ _ _ _)
      | (with_reducible exact ih4 _ _ _)
      | (with_reducible exact ih5 _ _)
      | (with_reducible exact salchowref09_digits.mono _ _)
      | (with_reducible exact LeO.refl _)
      | (with_reducible exact LeO.none _)
      | (with_reducible refine LeO.ite ?_ ?_)
      | (with_reducible refine LeO.bind ?_ (fun _ => ?_))
      | exact ih0 _ _
      | exact ih1 _ _
      | exact ih2 _ _ _
      | exact ih3 _ _ _ _
      | exact ih4 _ _ _
      | exact ih5 _ _
      | exact salchowref09_digits.mono _ _
      | exact LeO.none _
      | refine LeO.ite ?_ ?_
      | refine LeO.bind ?_ (fun _ => ?_)
theorem salchowref09_number.mono : ∀ a0 k, LeO (salchowref09_number.f k a0) (salchowref09_number.f (k + 1) a0) := by
  intro a0 k
  obtain ⟨ih0, ih1, ih2, ih3, ih4, ih5⟩ := salchowref09_number.mono_l k
  unfold salchowref09_number.f
  repeat' first
      | (with_reducible exact ih0 _ _)
      | (with_reducible exact ih1 _ _)
      | (with_reducible exact ih2 _ _ _)
      | (with_reducible exact ih3 _ _ _ _)
      | (with_reducible exact ih4 _ _ _)
      | (with_reducible exact ih5 _ _)
      | (with_reducible exact salchowref09_digits.mono _ _)
      | (with_reducible exact LeO.refl _)
      | (with_reducible exact LeO.none _)
      | (with_reducible refine LeO.ite ?_ ?_)
      | (with_reducible refine LeO.bind ?_ (fun _ => ?_))
      | exact ih0 _ _
      | exact ih1 _ _
      | exact ih2 _ _ _
      | exact ih3 _ _ _ _
      | exact ih4 _ _ _
      | exact ih5 _ _
      | exact salchowref09_digits.mono _ _
      | exact LeO.none _
      | refine LeO.ite ?_ ?_
      | refine LeO.bind ?_ (fun _ => ?_)
set_option maxHeartbeats 8000000 in
set_option maxRecDepth 100000 in
theorem salchowref09_number.calls (k : Nat) (a0 : ByteArray) (r1 : Int) (r2 : Int) (w : World) (h : salchowref09_number.f k a0 = some (r1, r2)) :
    Calls Tryd.prog 97 #[.string a0] w fun e w' => e = .returned (.tuple #[.int .i64 r1, .int .i64 r2]) ∧ Drawn0 w w' := by
  have H : (salchowref09_number.l0 k a0 0) = some (r1, r2) := h
  clear h
  have HC2 := Aside0.mk H
  clear H
  go_enter Tryd.func97, Tryd.ntmps97
  go_upto_block 0 with (fail)
  go_cut [4] (fun v4 wc => ∃ (kq : Nat) (x4_1 : Int), v4 = .int .i64 x4_1 ∧ Aside0 (salchowref09_number.j1 kq a0 x4_1 = some (r1, r2)) ∧ Aside0 (kq ≤ k) ∧ Drawn0 w wc)
  case first =>
    have H := HC2.out
    clear HC2
    have H' := Aside0.mk H
    clear H
    go_wp2
    go_loopg [4] k (fun kq v4 w' => ∃ (x4_1 : Int), v4 = .int .i64 x4_1 ∧ Aside0 (salchowref09_number.l0 kq a0 x4_1 = some (r1, r2)) ∧ Aside0 (kq ≤ k) ∧ Drawn0 w w')
    case atStart => exact ⟨(0), (by first | rfl | (simp; done) | (simp [*]; done) | (simp <;> rfl)), H', ⟨Nat.le_refl _⟩, by repeat (first | exact Drawn0.refl _ | apply Drawn0.step)⟩
    case round =>
      clear H'
      try clear p2
      obtain ⟨x4_1, rfl, HA, HK1, ⟨m1, rfl⟩⟩ := hrel
      cases gk with
      | zero => exact absurd HA.out (by simp [salchowref09_number.l0])
      | succ k1 =>
        have H := HA.out
        clear HA
        simp only [salchowref09_number.l0] at H
        by_cases c3 : x4_1 < (a0.size : Int)
        · rw [if_pos c3] at H
          have c3b0 : decide (x4_1 < (a0.size : Int)) = true := decide_eq_true c3
          clear c3
          (first | rw [c3b0] | (simp only [i64_w, i32_w]; rw [c3b0]) | skip)
          by_cases c4 : 0 ≤ x4_1
          · rw [if_pos c4] at H
            have c4b0 : decide (0 ≤ x4_1) = true := decide_eq_true c4
            clear c4
            by_cases c6 : (bt a0 x4_1) = 46
            · rw [if_pos c6] at H
              have c6b0 : ((bt a0 x4_1) == 46) = true := beq_iff_eq.mpr c6
              have c6b1 : ((bt a0 x4_1) != 46) = false := bne_eq_false_iff_eq.mpr c6
              clear c6
              have H' := Aside0.mk H
              clear H
              have p5 : 0 ≤ (x4_1 : Int) := of_decide_eq_true (by first | (with_reducible assumption) | assumption)
              have q5 : x4_1 < (a0.size : Int) := of_decide_eq_true (by first | (with_reducible assumption) | assumption)
              have hx5 := bt_at a0 x4_1
              replace p5 := eq_true p5
              replace q5 := eq_true q5
              go_wp2
              go_meet
              case rel => exact ⟨_, (x4_1), (by first | rfl | (simp; done) | (simp [*]; done) | (simp <;> rfl)), H', ⟨by have := HK1.out; first | omega | exact Nat.le_refl _⟩, by repeat (first | exact Drawn0.refl _ | apply Drawn0.step)⟩
            · rw [if_neg c6] at H
              have c6b0 : ((bt a0 x4_1) == 46) = false := beq_eq_false_iff_ne.mpr c6
              have c6b1 : ((bt a0 x4_1) != 46) = true := bne_iff_ne.mpr c6
              have H' := Aside0.mk H
              clear H
              have p5 : 0 ≤ (x4_1 : Int) := of_decide_eq_true (by first | (with_reducible assumption) | assumption)
              have q5 : x4_1 < (a0.size : Int) := of_decide_eq_true (by first | (with_reducible assumption) | assumption)
              have hx5 := bt_at a0 x4_1
              replace p5 := eq_true p5
              replace q5 := eq_true q5
              go_wp2
              go_roundg k1
              case measure => have := HK1.out; omega
              case rel => exact ⟨(wrap64 (x4_1 + 1)), (by first | rfl | (simp; done) | (simp [*]; done) | (simp <;> rfl)), H', ⟨by have := HK1.out; omega⟩, by repeat (first | exact Drawn0.refl _ | apply Drawn0.step)⟩
          · rw [if_neg c4] at H
            exact absurd H (by simp)
        · rw [if_neg c3] at H
          have c3b0 : decide (x4_1 < (a0.size : Int)) = false := decide_eq_false c3
          clear c3
          (first | rw [c3b0] | (simp only [i64_w, i32_w]; rw [c3b0]) | skip)
          have H' := Aside0.mk H
          clear H
          go_wp2
          go_meet
          case rel => exact ⟨_, (x4_1), (by first | rfl | (simp; done) | (simp [*]; done) | (simp <;> rfl)), H', ⟨by have := HK1.out; first | omega | exact Nat.le_refl _⟩, by repeat (first | exact Drawn0.refl _ | apply Drawn0.step)⟩
  case rest =>
    clear HC2
    try clear p2
    try clear c3
    try clear c3b0
    try clear c4
    try clear c4b0
    try clear p5
    try clear q5
    try clear hx5
    try clear c6
    try clear c6b0
    try clear c6b1
    try clear p6
    try clear p2
    try clear p5
    try clear q5
    obtain ⟨kq, x4_1, rfl, HA, HJ1, ⟨mc1, rfl⟩⟩ := hcut
    cases kq with
    | zero => exact absurd HA.out (by simp [salchowref09_number.j1])
    | succ kj1 =>
      have H := HA.out
      clear HA
      simp only [salchowref09_number.j1] at H
      by_cases c7 : 0 ≤ x4_1
      · rw [if_pos c7] at H
        have c7b0 := eq_true c7
        have c7b1 : decide (0 ≤ x4_1) = true := decide_eq_true c7
        clear c7
        by_cases c8 : x4_1 ≤ (a0.size : Int)
        · rw [if_pos c8] at H
          have c8b0 := eq_true c8
          have c8b1 : decide (x4_1 ≤ (a0.size : Int)) = true := decide_eq_true c8
          clear c8
          have HC9 := Aside0.mk H
          clear H
          go_upto_if 28 with (fail)
          go_cut [6] (fun v6 wc => ∃ (kq : Nat) (x6_8 : ByteArray), v6 = .string x6_8 ∧ Aside0 (salchowref09_number.j2 kq (a0.extract 0 (x4_1 : Int).toNat) x6_8 = some (r1, r2)) ∧ Aside0 (kq ≤ kj1) ∧ Drawn0 w wc)
          case first =>
            have H := HC9.out
            clear HC9
            by_cases c10 : x4_1 < (a0.size : Int)
            · rw [if_pos c10] at H
              have c10b0 : decide (x4_1 < (a0.size : Int)) = true := decide_eq_true c10
              clear c10
              (first | rw [c10b0] | (simp only [i64_w, i32_w]; rw [c10b0]) | skip)
              obtain ⟨ji11, hji11⟩ : ∃ j_ : Int, (wrap64 (x4_1 + 1)) = j_ := ⟨_, rfl⟩
              replace H : (if 0 ≤ (ji11) then (if (ji11) ≤ (a0.size : Int) then ((salchowref09_digits.f kj1 (a0.extract ((ji11) : Int).toNat a0.size)).bind fun t210 => (if t210 = true then (if ((a0.extract ((ji11) : Int).toNat a0.size).size : Int) > 3 then (some (0, 2)) else (salchowref09_number.j2 kj1 (a0.extract 0 (x4_1 : Int).toNat) (a0.extract ((ji11) : Int).toNat a0.size))) else (some (0, 2)))) else (none)) else (none)) = some (r1, r2) := by first | (rw [hji11] at H; exact H) | (simp only [hji11] at H ⊢; exact H)
              have hji11w : (IntKind.i64.wrap (x4_1 + 1)) = ji11 := (i64_w _).trans hji11
              by_cases c12 : 0 ≤ (ji11)
              · rw [if_pos c12] at H
                have c12b0 := eq_true c12
                have c12b1 : decide (0 ≤ (ji11)) = true := decide_eq_true c12
                clear c12
                by_cases c13 : (ji11) ≤ (a0.size : Int)
                · rw [if_pos c13] at H
                  have c13b0 := eq_true c13
                  have c13b1 : decide ((ji11) ≤ (a0.size : Int)) = true := decide_eq_true c13
                  clear c13
                  replace H := Option.bind_eq_some_iff.mp H
                  obtain ⟨t210, A140, H⟩ := H
                  replace H : (if t210 = true then (if ((a0.extract ((ji11) : Int).toNat a0.size).size : Int) > 3 then (some (0, 2)) else (salchowref09_number.j2 kj1 (a0.extract 0 (x4_1 : Int).toNat) (a0.extract ((ji11) : Int).toNat a0.size))) else (some (0, 2))) = some (r1, r2) := H
                  have A14 := Aside0.mk A140
                  clear A140
                  by_cases c15 : t210 = true
                  · subst c15
                    have H1 : (if ((a0.extract ((ji11) : Int).toNat a0.size).size : Int) > 3 then (some (0, 2)) else (salchowref09_number.j2 kj1 (a0.extract 0 (x4_1 : Int).toNat) (a0.extract ((ji11) : Int).toNat a0.size))) = some (r1, r2) := by rw [if_pos rfl] at H; exact H
                    clear H
                    have H := H1
                    clear H1
                    by_cases c16 : ((a0.extract ((ji11) : Int).toNat a0.size).size : Int) > 3
                    · rw [if_pos c16] at H
                      have c16b0 : decide (3 < ((a0.extract ((ji11) : Int).toNat a0.size).size : Int)) = true := decide_eq_true c16
                      have c16b1 : decide (3 < (a0.extract ((ji11) : Int).toNat a0.size).size) = true := decide_eq_true (by omega)
                      (try (have c16e0 := c16b0; simp only [ByteArray.size_extract, Nat.min_self, Nat.sub_zero] at c16e0))
                      (try (have c16e1 := c16b1; simp only [ByteArray.size_extract, Nat.min_self, Nat.sub_zero] at c16e1))
                      clear c16
                      simp only [Option.some.injEq, Prod.mk.injEq] at H
                      obtain ⟨rfl, rfl⟩ := H
                      go_wp2_with (first | ((with_reducible refine gate_callee (f := 117) rfl ?_); refine goesL_ (some 34) rfl rfl Tryd.func117 (by kernel_rfl) rfl #[.string (a0.extract ((ji11) : Int).toNat a0.size)] rfl (by (try simp only [List.map_toArray, List.map_cons, List.map_nil]); first | done | (simp only [hji11]; rfl) | rfl | (simp only [List.length_drop, List.length_take]; rfl)) ?_; (with_reducible refine (salchowref09_digits.calls kj1 (a0.extract ((ji11) : Int).toNat a0.size) true _ A14.out).mono ?_); rintro e w' ⟨rfl, ⟨nd, rfl⟩⟩; refine ⟨_, rfl, ?_⟩))
                      go_ret2
                      exact ⟨by first | rfl | (simp; done) | (simp only [← hji11] <;> (first | rfl | simp)) | (simp [*]; done), by repeat (first | exact Drawn0.refl _ | apply Drawn0.step)⟩
                    · rw [if_neg c16] at H
                      have c16b0 : decide (3 < ((a0.extract ((ji11) : Int).toNat a0.size).size : Int)) = false := decide_eq_false c16
                      have c16b1 : decide (3 < (a0.extract ((ji11) : Int).toNat a0.size).size) = false := decide_eq_false (by omega)
                      (try (have c16e0 := c16b0; simp only [ByteArray.size_extract, Nat.min_self, Nat.sub_zero] at c16e0))
                      (try (have c16e1 := c16b1; simp only [ByteArray.size_extract, Nat.min_self, Nat.sub_zero] at c16e1))
                      clear c16
                      have H' := Aside0.mk H
                      clear H
                      go_wp2_with (first | ((with_reducible refine gate_callee (f := 117) rfl ?_); refine goesL_ (some 34) rfl rfl Tryd.func117 (by kernel_rfl) rfl #[.string (a0.extract ((ji11) : Int).toNat a0.size)] rfl (by (try simp only [List.map_toArray, List.map_cons, List.map_nil]); first | done | (simp only [hji11]; rfl) | rfl | (simp only [List.length_drop, List.length_take]; rfl)) ?_; (with_reducible refine (salchowref09_digits.calls kj1 (a0.extract ((ji11) : Int).toNat a0.size) true _ A14.out).mono ?_); rintro e w' ⟨rfl, ⟨nd, rfl⟩⟩; refine ⟨_, rfl, ?_⟩))
                      go_meet
                      case rel => exact ⟨_, (a0.extract ((ji11) : Int).toNat a0.size), (by first | rfl | (simp; done) | (simp only [← hji11] <;> (first | rfl | simp)) | (simp [*]; done)), H', ⟨by have := HJ1.out; first | omega | exact Nat.le_refl _⟩, by repeat (first | exact Drawn0.refl _ | apply Drawn0.step)⟩
                  · replace c15 := Bool.eq_false_iff.mpr c15
                    subst c15
                    have H1 : (some (0, 2)) = some (r1, r2) := by rw [if_neg (show ¬ (false = true) by decide)] at H; exact H
                    clear H
                    have H := H1
                    clear H1
                    simp only [Option.some.injEq, Prod.mk.injEq] at H
                    obtain ⟨rfl, rfl⟩ := H
                    go_wp2_with (first | ((with_reducible refine gate_callee (f := 117) rfl ?_); refine goesL_ (some 34) rfl rfl Tryd.func117 (by kernel_rfl) rfl #[.string (a0.extract ((ji11) : Int).toNat a0.size)] rfl (by (try simp only [List.map_toArray, List.map_cons, List.map_nil]); first | done | (simp only [hji11]; rfl) | rfl | (simp only [List.length_drop, List.length_take]; rfl)) ?_; (with_reducible refine (salchowref09_digits.calls kj1 (a0.extract ((ji11) : Int).toNat a0.size) false _ A14.out).mono ?_); rintro e w' ⟨rfl, ⟨nd, rfl⟩⟩; refine ⟨_, rfl, ?_⟩))
                    go_ret2
                    exact ⟨by first | rfl | (simp; done) | (simp only [← hji11] <;> (first | rfl | simp)) | (simp [*]; done), by repeat (first | exact Drawn0.refl _ | apply Drawn0.step)⟩
                · rw [if_neg c13] at H
                  exact absurd H (by simp)
              · rw [if_neg c12] at H
                exact absurd H (by simp)
            · rw [if_neg c10] at H
              have c10b0 : decide (x4_1 < (a0.size : Int)) = false := decide_eq_false c10
              clear c10
              (first | rw [c10b0] | (simp only [i64_w, i32_w]; rw [c10b0]) | skip)
              have H' := Aside0.mk H
              clear H
              go_wp2
              go_meet
              case rel => exact ⟨_, ((⟨#[]⟩ : ByteArray)), (by first | rfl | (simp; done) | (simp [*]; done) | (simp <;> rfl)), H', ⟨by have := HJ1.out; first | omega | exact Nat.le_refl _⟩, by repeat (first | exact Drawn0.refl _ | apply Drawn0.step)⟩
          case rest =>
            clear HC9
            try clear c1
            try clear p2
            try clear c3
            try clear c3b0
            try clear c4
            try clear c4b0
            try clear p5
            try clear q5
            try clear hx5
            try clear c6
            try clear c6b0
            try clear c6b1
            try clear p6
            try clear c7
            try clear c7b0
            try clear c7b1
            try clear c8
            try clear c8b0
            try clear c8b1
            try clear c9
            try clear c10
            try clear c10b0
            try clear c11
            try clear c12
            try clear c12b0
            try clear c12b1
            try clear c13
            try clear c13b0
            try clear c13b1
            try clear c15
            try clear c16
            try clear c16e0
            try clear c16e1
            try clear c16b0
            try clear c16b1
            try clear p2
            try clear p5
            try clear p6
            try clear q5
            obtain ⟨kq, x6_8, rfl, HA, HJ8, ⟨mc8, rfl⟩⟩ := hcut
            cases kq with
            | zero => exact absurd HA.out (by simp [salchowref09_number.j2])
            | succ kj8 =>
              have H := HA.out
              clear HA
              simp only [salchowref09_number.j2] at H
              have HC17 := Aside0.mk H
              clear H
              go_upto_region 9 with (fail)
              go_cut [53] (fun v53 wc => ∃ (kq : Nat) (x53_16 : Bool), v53 = .bool x53_16 ∧ Aside0 (salchowref09_number.j3 kq (a0.extract 0 (x4_1 : Int).toNat) x6_8 x53_16 = some (r1, r2)) ∧ Aside0 (kq ≤ kj8) ∧ Drawn0 w wc)
              case first =>
                have H := HC17.out
                clear HC17
                replace H := Option.bind_eq_some_iff.mp H
                obtain ⟨t211, A180, H⟩ := H
                replace H : (if t211 = true then (if ((a0.extract 0 (x4_1 : Int).toNat).size : Int) > 1 then (if 0 < ((a0.extract 0 (x4_1 : Int).toNat).size : Int) then (salchowref09_number.j3 kj8 (a0.extract 0 (x4_1 : Int).toNat) x6_8 ((bt (a0.extract 0 (x4_1 : Int).toNat) 0) == 48)) else (none)) else (salchowref09_number.j3 kj8 (a0.extract 0 (x4_1 : Int).toNat) x6_8 false)) else (salchowref09_number.j3 kj8 (a0.extract 0 (x4_1 : Int).toNat) x6_8 true)) = some (r1, r2) := H
                have A18 := Aside0.mk A180
                clear A180
                by_cases c19 : t211 = true
                · subst c19
                  have H1 : (if ((a0.extract 0 (x4_1 : Int).toNat).size : Int) > 1 then (if 0 < ((a0.extract 0 (x4_1 : Int).toNat).size : Int) then (salchowref09_number.j3 kj8 (a0.extract 0 (x4_1 : Int).toNat) x6_8 ((bt (a0.extract 0 (x4_1 : Int).toNat) 0) == 48)) else (none)) else (salchowref09_number.j3 kj8 (a0.extract 0 (x4_1 : Int).toNat) x6_8 false)) = some (r1, r2) := by rw [if_pos rfl] at H; exact H
                  clear H
                  have H := H1
                  clear H1
                  by_cases c20 : ((a0.extract 0 (x4_1 : Int).toNat).size : Int) > 1
                  · rw [if_pos c20] at H
                    have c20b0 : decide (1 < ((a0.extract 0 (x4_1 : Int).toNat).size : Int)) = true := decide_eq_true c20
                    have c20b1 : decide (1 < (a0.extract 0 (x4_1 : Int).toNat).size) = true := decide_eq_true (by omega)
                    (try (have c20e0 := c20b0; simp only [ByteArray.size_extract, Nat.min_self, Nat.sub_zero] at c20e0))
                    (try (have c20e1 := c20b1; simp only [ByteArray.size_extract, Nat.min_self, Nat.sub_zero] at c20e1))
                    (try (have c20g0 := c20b0; simp only [ByteArray.size_extract, Nat.sub_zero, Nat.min_eq_left (show (x4_1 : Int).toNat ≤ a0.size from by have h_ : (x4_1 : Int) ≤ (a0.size : Int) := of_decide_eq_true (by first | (with_reducible assumption) | assumption); omega)] at c20g0))
                    (try (have c20g1 := c20b1; simp only [ByteArray.size_extract, Nat.sub_zero, Nat.min_eq_left (show (x4_1 : Int).toNat ≤ a0.size from by have h_ : (x4_1 : Int) ≤ (a0.size : Int) := of_decide_eq_true (by first | (with_reducible assumption) | assumption); omega)] at c20g1))
                    clear c20
                    (first | rw [c20b0] | (simp only [i64_w, i32_w]; rw [c20b0]) | skip)
                    by_cases c21 : 0 < ((a0.extract 0 (x4_1 : Int).toNat).size : Int)
                    · rw [if_pos c21] at H
                      have c21b0 : decide (0 < ((a0.extract 0 (x4_1 : Int).toNat).size : Int)) = true := decide_eq_true c21
                      have c21b1 : decide (0 < (a0.extract 0 (x4_1 : Int).toNat).size) = true := decide_eq_true (by omega)
                      (try (have c21e0 := c21b0; simp only [ByteArray.size_extract, Nat.min_self, Nat.sub_zero] at c21e0))
                      (try (have c21e1 := c21b1; simp only [ByteArray.size_extract, Nat.min_self, Nat.sub_zero] at c21e1))
                      (try (have c21g0 := c21b0; simp only [ByteArray.size_extract, Nat.sub_zero, Nat.min_eq_left (show (x4_1 : Int).toNat ≤ a0.size from by have h_ : (x4_1 : Int) ≤ (a0.size : Int) := of_decide_eq_true (by first | (with_reducible assumption) | assumption); omega)] at c21g0))
                      (try (have c21g1 := c21b1; simp only [ByteArray.size_extract, Nat.sub_zero, Nat.min_eq_left (show (x4_1 : Int).toNat ≤ a0.size from by have h_ : (x4_1 : Int) ≤ (a0.size : Int) := of_decide_eq_true (by first | (with_reducible assumption) | assumption); omega)] at c21g1))
                      clear c21
                      have H' := Aside0.mk H
                      clear H
                      go_wp2_with (first | ((with_reducible refine gate_callee (f := 117) rfl ?_); refine goesL_ (some 42) rfl rfl Tryd.func117 (by kernel_rfl) rfl #[.string (a0.extract 0 (x4_1 : Int).toNat)] rfl (by (try simp only [List.map_toArray, List.map_cons, List.map_nil]); first | done | rfl | (simp only [List.length_drop, List.length_take]; rfl)) ?_; (with_reducible refine (salchowref09_digits.calls kj8 (a0.extract 0 (x4_1 : Int).toNat) true _ A18.out).mono ?_); rintro e w' ⟨rfl, ⟨nd, rfl⟩⟩; refine ⟨_, rfl, ?_⟩; have p22 : 0 ≤ (0 : Int) := (by omega); have q22 : 0 < (a0.extract 0 (x4_1 : Int).toNat).size := (by have : (0 : Int) < ((a0.extract 0 (x4_1 : Int).toNat).size : Int) := of_decide_eq_true (by first | (with_reducible assumption) | assumption); omega); have hx22 : ∀ h : 0 < (a0.extract 0 (x4_1 : Int).toNat).size, (((a0.extract 0 (x4_1 : Int).toNat)[0]'h).toNat : Int) = bt (a0.extract 0 (x4_1 : Int).toNat) 0 := bt_at (a0.extract 0 (x4_1 : Int).toNat) 0; clear p22; have qi22 : (0 < ((a0.extract 0 (x4_1 : Int).toNat).size : Int)) = True := eq_true (of_decide_eq_true (by first | (with_reducible assumption) | assumption)); (try (have qe22 := q22; simp only [ByteArray.size_extract, Nat.min_self, Nat.sub_zero] at qe22; replace qe22 := eq_true qe22)); (try (have qc22 : (0 : Int) < ((a0.extract 0 (x4_1 : Int).toNat).size : Int) := by omega; simp only [ByteArray.size_extract, Nat.min_self, Nat.sub_zero] at qc22; replace qc22 := eq_true qc22)); replace q22 := eq_true q22))
                      go_meet
                      case rel => exact ⟨_, (((bt (a0.extract 0 (x4_1 : Int).toNat) 0) == 48)), (by first | rfl | (simp; done) | (simp [*]; done) | (simp <;> rfl)), H', ⟨by have := HJ1.out; have := HJ8.out; first | omega | exact Nat.le_refl _⟩, by repeat (first | exact Drawn0.refl _ | apply Drawn0.step)⟩
                    · rw [if_neg c21] at H
                      exact absurd H (by simp)
                  · rw [if_neg c20] at H
                    have c20b0 : decide (1 < ((a0.extract 0 (x4_1 : Int).toNat).size : Int)) = false := decide_eq_false c20
                    have c20b1 : decide (1 < (a0.extract 0 (x4_1 : Int).toNat).size) = false := decide_eq_false (by omega)
                    (try (have c20e0 := c20b0; simp only [ByteArray.size_extract, Nat.min_self, Nat.sub_zero] at c20e0))
                    (try (have c20e1 := c20b1; simp only [ByteArray.size_extract, Nat.min_self, Nat.sub_zero] at c20e1))
                    (try (have c20g0 := c20b0; simp only [ByteArray.size_extract, Nat.sub_zero, Nat.min_eq_left (show (x4_1 : Int).toNat ≤ a0.size from by have h_ : (x4_1 : Int) ≤ (a0.size : Int) := of_decide_eq_true (by first | (with_reducible assumption) | assumption); omega)] at c20g0))
                    (try (have c20g1 := c20b1; simp only [ByteArray.size_extract, Nat.sub_zero, Nat.min_eq_left (show (x4_1 : Int).toNat ≤ a0.size from by have h_ : (x4_1 : Int) ≤ (a0.size : Int) := of_decide_eq_true (by first | (with_reducible assumption) | assumption); omega)] at c20g1))
                    clear c20
                    (first | rw [c20b0] | (simp only [i64_w, i32_w]; rw [c20b0]) | skip)
                    have H' := Aside0.mk H
                    clear H
                    go_wp2_with (first | ((with_reducible refine gate_callee (f := 117) rfl ?_); refine goesL_ (some 42) rfl rfl Tryd.func117 (by kernel_rfl) rfl #[.string (a0.extract 0 (x4_1 : Int).toNat)] rfl (by (try simp only [List.map_toArray, List.map_cons, List.map_nil]); first | done | rfl | (simp only [List.length_drop, List.length_take]; rfl)) ?_; (with_reducible refine (salchowref09_digits.calls kj8 (a0.extract 0 (x4_1 : Int).toNat) true _ A18.out).mono ?_); rintro e w' ⟨rfl, ⟨nd, rfl⟩⟩; refine ⟨_, rfl, ?_⟩))
                    go_meet
                    case rel => exact ⟨_, (false), (by first | rfl | (simp; done) | (simp [*]; done) | (simp <;> rfl)), H', ⟨by have := HJ1.out; have := HJ8.out; first | omega | exact Nat.le_refl _⟩, by repeat (first | exact Drawn0.refl _ | apply Drawn0.step)⟩
                · replace c19 := Bool.eq_false_iff.mpr c19
                  subst c19
                  have H1 : (salchowref09_number.j3 kj8 (a0.extract 0 (x4_1 : Int).toNat) x6_8 true) = some (r1, r2) := by rw [if_neg (show ¬ (false = true) by decide)] at H; exact H
                  clear H
                  have H := H1
                  clear H1
                  have H' := Aside0.mk H
                  clear H
                  go_wp2_with (first | ((with_reducible refine gate_callee (f := 117) rfl ?_); refine goesL_ (some 42) rfl rfl Tryd.func117 (by kernel_rfl) rfl #[.string (a0.extract 0 (x4_1 : Int).toNat)] rfl (by (try simp only [List.map_toArray, List.map_cons, List.map_nil]); first | done | rfl | (simp only [List.length_drop, List.length_take]; rfl)) ?_; (with_reducible refine (salchowref09_digits.calls kj8 (a0.extract 0 (x4_1 : Int).toNat) false _ A18.out).mono ?_); rintro e w' ⟨rfl, ⟨nd, rfl⟩⟩; refine ⟨_, rfl, ?_⟩))
                  go_meet
                  case rel => exact ⟨_, (true), (by first | rfl | (simp; done) | (simp [*]; done) | (simp <;> rfl)), H', ⟨by have := HJ1.out; have := HJ8.out; first | omega | exact Nat.le_refl _⟩, by repeat (first | exact Drawn0.refl _ | apply Drawn0.step)⟩
              case rest =>
                clear HC17
                try clear c1
                try clear qe2
                try clear qc2
                try clear c2
                try clear p2
                try clear q2
                try clear hx2
                try clear qi2
                try clear c3
                try clear c3b0
                try clear c4
                try clear c4b0
                try clear p5
                try clear q5
                try clear hx5
                try clear c6
                try clear c6b0
                try clear c6b1
                try clear p6
                try clear c7
                try clear c7b0
                try clear c7b1
                try clear c8
                try clear c8b0
                try clear c8b1
                try clear c9
                try clear c10
                try clear c10b0
                try clear c11
                try clear c12
                try clear c12b0
                try clear c12b1
                try clear c13
                try clear c13b0
                try clear c13b1
                try clear c15
                try clear c16
                try clear c16e0
                try clear c16e1
                try clear c16b0
                try clear c16b1
                try clear c19
                try clear c20g0
                try clear c20g1
                try clear c20
                try clear c20e0
                try clear c20e1
                try clear c20b0
                try clear c20b1
                try clear c21g0
                try clear c21g1
                try clear c21
                try clear c21e0
                try clear c21e1
                try clear c21b0
                try clear c21b1
                try clear qe22
                try clear qc22
                try clear c22
                try clear p22
                try clear q22
                try clear hx22
                try clear qi22
                try clear p2
                try clear p22
                try clear p5
                try clear p6
                try clear q22
                try clear q5
                obtain ⟨kq, x53_16, rfl, HA, HJ16, ⟨mc16, rfl⟩⟩ := hcut
                cases kq with
                | zero => exact absurd HA.out (by simp [salchowref09_number.j3])
                | succ kj16 =>
                  have H := HA.out
                  clear HA
                  simp only [salchowref09_number.j3] at H
                  by_cases c23 : x53_16 = true
                  · subst c23
                    have H1 : (some (0, 2)) = some (r1, r2) := by rw [if_pos rfl] at H; exact H
                    clear H
                    have H := H1
                    clear H1
                    simp only [Option.some.injEq, Prod.mk.injEq] at H
                    obtain ⟨rfl, rfl⟩ := H
                    go_wp2
                    go_ret2
                    exact ⟨by first | rfl | (simp; done) | (simp [*]; done) | (simp <;> rfl), by repeat (first | exact Drawn0.refl _ | apply Drawn0.step)⟩
                  · replace c23 := Bool.eq_false_iff.mpr c23
                    subst c23
                    have H1 : (if ((a0.extract 0 (x4_1 : Int).toNat).size : Int) > 10 then (some (0, 5)) else (salchowref09_number.l1 kj16 (a0.extract 0 (x4_1 : Int).toNat) x6_8 0 0)) = some (r1, r2) := by rw [if_neg (show ¬ (false = true) by decide)] at H; exact H
                    clear H
                    have H := H1
                    clear H1
                    by_cases c24 : ((a0.extract 0 (x4_1 : Int).toNat).size : Int) > 10
                    · rw [if_pos c24] at H
                      have c24b0 : decide (10 < ((a0.extract 0 (x4_1 : Int).toNat).size : Int)) = true := decide_eq_true c24
                      have c24b1 : decide (10 < (a0.extract 0 (x4_1 : Int).toNat).size) = true := decide_eq_true (by omega)
                      (try (have c24e0 := c24b0; simp only [ByteArray.size_extract, Nat.min_self, Nat.sub_zero] at c24e0))
                      (try (have c24e1 := c24b1; simp only [ByteArray.size_extract, Nat.min_self, Nat.sub_zero] at c24e1))
                      (try (have c24g0 := c24b0; simp only [ByteArray.size_extract, Nat.sub_zero, Nat.min_eq_left (show (x4_1 : Int).toNat ≤ a0.size from by have h_ : (x4_1 : Int) ≤ (a0.size : Int) := of_decide_eq_true (by first | (with_reducible assumption) | assumption); omega)] at c24g0))
                      (try (have c24g1 := c24b1; simp only [ByteArray.size_extract, Nat.sub_zero, Nat.min_eq_left (show (x4_1 : Int).toNat ≤ a0.size from by have h_ : (x4_1 : Int) ≤ (a0.size : Int) := of_decide_eq_true (by first | (with_reducible assumption) | assumption); omega)] at c24g1))
                      clear c24
                      simp only [Option.some.injEq, Prod.mk.injEq] at H
                      obtain ⟨rfl, rfl⟩ := H
                      go_wp2
                      go_ret2
                      exact ⟨by first | rfl | (simp; done) | (simp [*]; done) | (simp <;> rfl), by repeat (first | exact Drawn0.refl _ | apply Drawn0.step)⟩
                    · rw [if_neg c24] at H
                      have c24b0 : decide (10 < ((a0.extract 0 (x4_1 : Int).toNat).size : Int)) = false := decide_eq_false c24
                      have c24b1 : decide (10 < (a0.extract 0 (x4_1 : Int).toNat).size) = false := decide_eq_false (by omega)
                      (try (have c24e0 := c24b0; simp only [ByteArray.size_extract, Nat.min_self, Nat.sub_zero] at c24e0))
                      (try (have c24e1 := c24b1; simp only [ByteArray.size_extract, Nat.min_self, Nat.sub_zero] at c24e1))
                      (try (have c24g0 := c24b0; simp only [ByteArray.size_extract, Nat.sub_zero, Nat.min_eq_left (show (x4_1 : Int).toNat ≤ a0.size from by have h_ : (x4_1 : Int) ≤ (a0.size : Int) := of_decide_eq_true (by first | (with_reducible assumption) | assumption); omega)] at c24g0))
                      (try (have c24g1 := c24b1; simp only [ByteArray.size_extract, Nat.sub_zero, Nat.min_eq_left (show (x4_1 : Int).toNat ≤ a0.size from by have h_ : (x4_1 : Int) ≤ (a0.size : Int) := of_decide_eq_true (by first | (with_reducible assumption) | assumption); omega)] at c24g1))
                      clear c24
                      have H' := Aside0.mk H
                      clear H
                      go_wp2
                      go_loopg [7, 8] kj16 (fun kq v7 v8 w' => ∃ (x7_4 : Int) (x8_4 : Int), v7 = .int .i64 x7_4 ∧ v8 = .int .i64 x8_4 ∧ Aside0 (salchowref09_number.l1 kq (a0.extract 0 (x4_1 : Int).toNat) x6_8 x7_4 x8_4 = some (r1, r2)) ∧ Aside0 (kq ≤ kj16) ∧ Drawn0 w w')
                      case atStart => exact ⟨(0), (0), (by first | rfl | (simp; done) | (simp [*]; done) | (simp <;> rfl)), (by first | rfl | (simp; done) | (simp [*]; done) | (simp <;> rfl)), H', ⟨Nat.le_refl _⟩, by repeat (first | exact Drawn0.refl _ | apply Drawn0.step)⟩
                      case round =>
                        clear H'
                        try clear c1
                        try clear qe2
                        try clear qc2
                        try clear c2
                        try clear p2
                        try clear q2
                        try clear hx2
                        try clear qi2
                        try clear c3
                        try clear c3b0
                        try clear c4
                        try clear c4b0
                        try clear p5
                        try clear q5
                        try clear hx5
                        try clear c6
                        try clear c6b0
                        try clear c6b1
                        try clear p6
                        try clear c7
                        try clear c7b0
                        try clear c7b1
                        try clear c8
                        try clear c8b0
                        try clear c8b1
                        try clear c9
                        try clear c10
                        try clear c10b0
                        try clear c11
                        try clear c12
                        try clear c12b0
                        try clear c12b1
                        try clear c13
                        try clear c13b0
                        try clear c13b1
                        try clear c15
                        try clear c16
                        try clear c16e0
                        try clear c16e1
                        try clear c16b0
                        try clear c16b1
                        try clear c19
                        try clear c20g0
                        try clear c20g1
                        try clear c20
                        try clear c20e0
                        try clear c20e1
                        try clear c20b0
                        try clear c20b1
                        try clear c21g0
                        try clear c21g1
                        try clear c21
                        try clear c21e0
                        try clear c21e1
                        try clear c21b0
                        try clear c21b1
                        try clear qe22
                        try clear qc22
                        try clear c22
                        try clear p22
                        try clear q22
                        try clear hx22
                        try clear qi22
                        try clear c23
                        try clear c24g0
                        try clear c24g1
                        try clear c24
                        try clear c24e0
                        try clear c24e1
                        try clear c24b0
                        try clear c24b1
                        try clear p2
                        try clear p22
                        try clear p5
                        try clear p6
                        try clear q2
                        try clear q22
                        try clear q5
                        obtain ⟨x7_4, x8_4, rfl, rfl, HA, HK4, ⟨m4, rfl⟩⟩ := hrel
                        cases gk with
                        | zero => exact absurd HA.out (by simp [salchowref09_number.l1])
                        | succ k4 =>
                          have H := HA.out
                          clear HA
                          simp only [salchowref09_number.l1] at H
                          by_cases c25 : x8_4 < ((a0.extract 0 (x4_1 : Int).toNat).size : Int)
                          · rw [if_pos c25] at H
                            have c25b0 : decide (x8_4 < ((a0.extract 0 (x4_1 : Int).toNat).size : Int)) = true := decide_eq_true c25
                            (try (have c25e0 := c25b0; simp only [ByteArray.size_extract, Nat.min_self, Nat.sub_zero] at c25e0))
                            (try (have c25g0 := c25b0; simp only [ByteArray.size_extract, Nat.sub_zero, Nat.min_eq_left (show (x4_1 : Int).toNat ≤ a0.size from by have h_ : (x4_1 : Int) ≤ (a0.size : Int) := of_decide_eq_true (by first | (with_reducible assumption) | assumption); omega)] at c25g0))
                            clear c25
                            by_cases c26 : 0 ≤ x8_4
                            · rw [if_pos c26] at H
                              have c26b0 : decide (0 ≤ x8_4) = true := decide_eq_true c26
                              clear c26
                              have H' := Aside0.mk H
                              clear H
                              have p27 : 0 ≤ (x8_4 : Int) := of_decide_eq_true (by first | (with_reducible assumption) | assumption)
                              have q27 : x8_4 < ((a0.extract 0 (x4_1 : Int).toNat).size : Int) := of_decide_eq_true (by first | (with_reducible assumption) | assumption)
                              have hx27 := bt_at (a0.extract 0 (x4_1 : Int).toNat) x8_4
                              replace p27 := eq_true p27
                              (try (have qe27 := q27; simp only [ByteArray.size_extract, Nat.min_self, Nat.sub_zero] at qe27; replace qe27 := eq_true qe27))
                              (try (have qc27 : (x8_4 : Int) < ((a0.extract 0 (x4_1 : Int).toNat).size : Int) := by omega; simp only [ByteArray.size_extract, Nat.min_self, Nat.sub_zero] at qc27; replace qc27 := eq_true qc27))
                              replace q27 := eq_true q27
                              go_wp2
                              go_roundg k4
                              case measure => have := HJ1.out; have := HJ8.out; have := HJ16.out; have := HK4.out; omega
                              case rel => exact ⟨(wrap64 ((wrap64 (10 * x7_4)) + (((bt (a0.extract 0 (x4_1 : Int).toNat) x8_4) - 48) % 256))), (wrap64 (x8_4 + 1)), (by first | rfl | (simp; done) | (simp [*]; done) | (simp <;> rfl)), (by first | rfl | (simp; done) | (simp [*]; done) | (simp <;> rfl)), H', ⟨by have := HJ1.out; have := HJ8.out; have := HJ16.out; have := HK4.out; omega⟩, by repeat (first | exact Drawn0.refl _ | apply Drawn0.step)⟩
                            · rw [if_neg c26] at H
                              exact absurd H (by simp)
                          · rw [if_neg c25] at H
                            have c25b0 : decide (x8_4 < ((a0.extract 0 (x4_1 : Int).toNat).size : Int)) = false := decide_eq_false c25
                            (try (have c25e0 := c25b0; simp only [ByteArray.size_extract, Nat.min_self, Nat.sub_zero] at c25e0))
                            (try (have c25g0 := c25b0; simp only [ByteArray.size_extract, Nat.sub_zero, Nat.min_eq_left (show (x4_1 : Int).toNat ≤ a0.size from by have h_ : (x4_1 : Int) ≤ (a0.size : Int) := of_decide_eq_true (by first | (with_reducible assumption) | assumption); omega)] at c25g0))
                            clear c25
                            have H' := Aside0.mk H
                            clear H
                            go_wp2
                            go_loopg [7, 9] k4 (fun kq v7 v9 w' => ∃ (x7_5 : Int) (x9_5 : Int), v7 = .int .i64 x7_5 ∧ v9 = .int .i64 x9_5 ∧ Aside0 (salchowref09_number.l2 kq x6_8 x7_5 x9_5 = some (r1, r2)) ∧ Aside0 (kq ≤ k4) ∧ Drawn0 w w')
                            case atStart => exact ⟨(x7_4), (0), (by first | rfl | (simp; done) | (simp [*]; done) | (simp <;> rfl)), (by first | rfl | (simp; done) | (simp [*]; done) | (simp <;> rfl)), H', ⟨Nat.le_refl _⟩, by repeat (first | exact Drawn0.refl _ | apply Drawn0.step)⟩
                            case round =>
                              clear H'
                              try clear c1
                              try clear qe2
                              try clear qc2
                              try clear c2
                              try clear p2
                              try clear q2
                              try clear hx2
                              try clear qi2
                              try clear c3
                              try clear c3b0
                              try clear c4
                              try clear c4b0
                              try clear p5
                              try clear q5
                              try clear hx5
                              try clear c6
                              try clear c6b0
                              try clear c6b1
                              try clear p6
                              try clear c7
                              try clear c7b0
                              try clear c7b1
                              try clear c8
                              try clear c8b0
                              try clear c8b1
                              try clear c9
                              try clear c10
                              try clear c10b0
                              try clear c11
                              try clear c12
                              try clear c12b0
                              try clear c12b1
                              try clear c13
                              try clear c13b0
                              try clear c13b1
                              try clear c15
                              try clear c16
                              try clear c16e0
                              try clear c16e1
                              try clear c16b0
                              try clear c16b1
                              try clear c19
                              try clear c20g0
                              try clear c20g1
                              try clear c20
                              try clear c20e0
                              try clear c20e1
                              try clear c20b0
                              try clear c20b1
                              try clear c21g0
                              try clear c21g1
                              try clear c21
                              try clear c21e0
                              try clear c21e1
                              try clear c21b0
                              try clear c21b1
                              try clear qe22
                              try clear qc22
                              try clear c22
                              try clear p22
                              try clear q22
                              try clear hx22
                              try clear qi22
                              try clear c23
                              try clear c24g0
                              try clear c24g1
                              try clear c24
                              try clear c24e0
                              try clear c24e1
                              try clear c24b0
                              try clear c24b1
                              try clear c25g0
                              try clear c25
                              try clear c25e0
                              try clear c25b0
                              try clear c26
                              try clear c26b0
                              try clear qe27
                              try clear qc27
                              try clear c27
                              try clear p27
                              try clear q27
                              try clear hx27
                              try clear p2
                              try clear p22
                              try clear p27
                              try clear p5
                              try clear p6
                              try clear q2
                              try clear q22
                              try clear q27
                              try clear q5
                              obtain ⟨x7_5, x9_5, rfl, rfl, HA, HK5, ⟨m5, rfl⟩⟩ := hrel
                              cases gk with
                              | zero => exact absurd HA.out (by simp [salchowref09_number.l2])
                              | succ k5 =>
                                have H := HA.out
                                clear HA
                                simp only [salchowref09_number.l2] at H
                                by_cases c28 : x9_5 < 3
                                · rw [if_pos c28] at H
                                  have c28b0 : decide (x9_5 < 3) = true := decide_eq_true c28
                                  clear c28
                                  by_cases c29 : x9_5 < (x6_8.size : Int)
                                  · rw [if_pos c29] at H
                                    have c29b0 : decide (x9_5 < (x6_8.size : Int)) = true := decide_eq_true c29
                                    clear c29
                                    by_cases c30 : 0 ≤ x9_5
                                    · rw [if_pos c30] at H
                                      have c30b0 : decide (0 ≤ x9_5) = true := decide_eq_true c30
                                      clear c30
                                      have H' := Aside0.mk H
                                      clear H
                                      have p31 : 0 ≤ (x9_5 : Int) := of_decide_eq_true (by first | (with_reducible assumption) | assumption)
                                      have q31 : x9_5 < (x6_8.size : Int) := of_decide_eq_true (by first | (with_reducible assumption) | assumption)
                                      have hx31 := bt_at x6_8 x9_5
                                      replace p31 := eq_true p31
                                      replace q31 := eq_true q31
                                      go_wp2
                                      go_roundg k5
                                      case measure => have := HJ1.out; have := HJ8.out; have := HJ16.out; have := HK4.out; have := HK5.out; omega
                                      case rel => exact ⟨(wrap64 ((wrap64 (x7_5 * 10)) + (((bt x6_8 x9_5) - 48) % 256))), (wrap64 (x9_5 + 1)), (by first | rfl | (simp; done) | (simp [*]; done) | (simp <;> rfl)), (by first | rfl | (simp; done) | (simp [*]; done) | (simp <;> rfl)), H', ⟨by have := HJ1.out; have := HJ8.out; have := HJ16.out; have := HK4.out; have := HK5.out; omega⟩, by repeat (first | exact Drawn0.refl _ | apply Drawn0.step)⟩
                                    · rw [if_neg c30] at H
                                      exact absurd H (by simp)
                                  · rw [if_neg c29] at H
                                    have c29b0 : decide (x9_5 < (x6_8.size : Int)) = false := decide_eq_false c29
                                    clear c29
                                    have H' := Aside0.mk H
                                    clear H
                                    go_wp2
                                    go_roundg k5
                                    case measure => have := HJ1.out; have := HJ8.out; have := HJ16.out; have := HK4.out; have := HK5.out; omega
                                    case rel => exact ⟨(wrap64 (x7_5 * 10)), (wrap64 (x9_5 + 1)), (by first | rfl | (simp; done) | (simp [*]; done) | (simp <;> rfl)), (by first | rfl | (simp; done) | (simp [*]; done) | (simp <;> rfl)), H', ⟨by have := HJ1.out; have := HJ8.out; have := HJ16.out; have := HK4.out; have := HK5.out; omega⟩, by repeat (first | exact Drawn0.refl _ | apply Drawn0.step)⟩
                                · rw [if_neg c28] at H
                                  have c28b0 : decide (x9_5 < 3) = false := decide_eq_false c28
                                  clear c28
                                  by_cases c32 : x7_5 > 1000000000
                                  · rw [if_pos c32] at H
                                    have c32b0 : decide (1000000000 < x7_5) = true := decide_eq_true c32
                                    clear c32
                                    simp only [Option.some.injEq, Prod.mk.injEq] at H
                                    obtain ⟨rfl, rfl⟩ := H
                                    go_wp2
                                    go_ret2
                                    exact ⟨by first | rfl | (simp; done) | (simp [*]; done) | (simp <;> rfl), by repeat (first | exact Drawn0.refl _ | apply Drawn0.step)⟩
                                  · rw [if_neg c32] at H
                                    have c32b0 : decide (1000000000 < x7_5) = false := decide_eq_false c32
                                    clear c32
                                    simp only [Option.some.injEq, Prod.mk.injEq] at H
                                    obtain ⟨rfl, rfl⟩ := H
                                    go_wp2
                                    go_ret2
                                    exact ⟨by first | rfl | (simp; done) | (simp [*]; done) | (simp <;> rfl), by repeat (first | exact Drawn0.refl _ | apply Drawn0.step)⟩
        · rw [if_neg c8] at H
          exact absurd H (by simp)
      · rw [if_neg c7] at H
        exact absurd H (by simp)
end Go.Proofs.YtkifdadhojbohaaDoor.Pr
namespace Go.Proofs.YtkifdadhojbohaaDoor.Pr
open Go.Proofs.YtkifdadhojbohaaDoor
open Go.RowKit Go.Proofs.YtkifdadhojbohaaDoorW.PrintWords Go.Proofs.YtkifdadhojbohaaDoorW.PrintLast Go.Proofs.YtkifdadhojbohaaDoorW.PrintMore
attribute [local go_sem] max2_int min2_int max_two min_two max_three min_three max_four min_four   -- for this text's walks alone
set_option linter.unusedVariables false
set_option linter.unusedSimpArgs false
/-! ### salchowref09_Token: function 66 -/
mutual
def salchowref09_Token.j1 : Nat → ByteArray → Int → Int → Option (Int × ByteArray × Int × Int × Int × Int)
  | 0, _, _, _ => none
  | k + 1, x0, x1, x7 => if 0 ≤ x1 then (if x1 ≤ x7 then (if x7 ≤ (x0.size : Int) then (if x1 < (x0.size : Int) then (if (bt x0 x1) = 34 then (salchowref09_Token.l1 k x0 x1 (wrap64 (x1 + 1))) else ((salchowref09_sign.f k (bt x0 x1)).bind fun t215 => (if t215 = true then (if x1 ≤ (wrap64 (x1 + 1)) then (if (wrap64 (x1 + 1)) ≤ (x0.size : Int) then (some (4, x0.extract (x1 : Int).toNat ((wrap64 (x1 + 1)) : Int).toNat, 0, x1, wrap64 (x1 + 1), 0)) else (none)) else (none)) else (if (x0.extract (x1 : Int).toNat (x7 : Int).toNat).toList = ([] : List UInt8) then (some (0, (⟨#[]⟩ : ByteArray), 0, 0, 0, 2)) else ((salchowref09_has.f k (x0.extract (x1 : Int).toNat (x7 : Int).toNat) true false).bind fun t216 => (if t216 = true then ((salchowref09_has.f k (x0.extract (x1 : Int).toNat (x7 : Int).toNat) false true).bind fun t217 => (if t217 = true then (some (0, (⟨#[]⟩ : ByteArray), 0, 0, 0, 2)) else (if ((x0.extract (x1 : Int).toNat (x7 : Int).toNat).size : Int) > 32 then (some (0, (⟨#[]⟩ : ByteArray), 0, 0, 0, 6)) else (some (1, x0.extract (x1 : Int).toNat (x7 : Int).toNat, 0, x1, x7, 0))))) else ((salchowref09_number.f k (x0.extract (x1 : Int).toNat (x7 : Int).toNat)).bind fun bt218 => (if bt218.2 = 0 then (some (2, (⟨#[]⟩ : ByteArray), bt218.1, x1, x7, 0)) else (some (0, (⟨#[]⟩ : ByteArray), 0, 0, 0, bt218.2)))))))))) else (none)) else (none)) else (none)) else (none)
def salchowref09_Token.j3 : Nat → ByteArray → Int → Int → Option (Int × ByteArray × Int × Int × Int × Int)
  | 0, _, _, _ => none
  | k + 1, x0, x1, x7 => if x7 = (x0.size : Int) then (salchowref09_Token.j4 k x0 x1 x7 true) else (if 0 ≤ x7 then (if x7 < (x0.size : Int) then (salchowref09_Token.j4 k x0 x1 x7 ((bt x0 x7) != 34)) else (none)) else (none))
def salchowref09_Token.j4 : Nat → ByteArray → Int → Int → Bool → Option (Int × ByteArray × Int × Int × Int × Int)
  | 0, _, _, _, _ => none
  | k + 1, x0, x1, x7, x70 => if x70 = true then (some (0, (⟨#[]⟩ : ByteArray), 0, 0, 0, 2)) else (if 0 ≤ (wrap64 (x1 + 1)) then (if (wrap64 (x1 + 1)) ≤ x7 then (if x7 ≤ (x0.size : Int) then ((salchowref09_Title.f k (x0.extract ((wrap64 (x1 + 1)) : Int).toNat (x7 : Int).toNat)).bind fun t214 => (if t214 = 0 then (some (3, x0.extract ((wrap64 (x1 + 1)) : Int).toNat (x7 : Int).toNat, 0, x1, wrap64 (x7 + 1), 0)) else (some (0, (⟨#[]⟩ : ByteArray), 0, 0, 0, t214)))) else (none)) else (none)) else (none))
def salchowref09_Token.l1 : Nat → ByteArray → Int → Int → Option (Int × ByteArray × Int × Int × Int × Int)
  | 0, _, _, _ => none
  | k + 1, x0, x1, x7 => if x7 < (x0.size : Int) then (if 0 ≤ x7 then (if (bt x0 x7) = 34 then (salchowref09_Token.j3 k x0 x1 x7) else (if (bt x0 x7) = 10 then (salchowref09_Token.j3 k x0 x1 x7) else (salchowref09_Token.l1 k x0 x1 (wrap64 (x7 + 1))))) else (none)) else (salchowref09_Token.j3 k x0 x1 x7)
def salchowref09_Token.l0 : Nat → ByteArray → Int → Int → Option (Int × ByteArray × Int × Int × Int × Int)
  | 0, _, _, _ => none
  | k + 1, x0, x1, x7 => if x7 < (x0.size : Int) then (if 0 ≤ x7 then ((salchowref09_run.f (bt x0 x7)).bind fun t213 => (if t213 = true then (salchowref09_Token.l0 k x0 x1 (wrap64 (x7 + 1))) else (salchowref09_Token.j1 k x0 x1 x7))) else (none)) else (salchowref09_Token.j1 k x0 x1 x7)
end
def salchowref09_Token.f (k : Nat) (a0 : ByteArray) (a1 : Int) : Option (Int × ByteArray × Int × Int × Int × Int) := if a1 = (a0.size : Int) then (some (5, (⟨#[]⟩ : ByteArray), 0, a1, a1, 0)) else (salchowref09_Token.l0 k a0 a1 a1)
theorem salchowref09_Token.mono_l : ∀ k, (∀ y0 y1 y2, LeO (salchowref09_Token.j1 k y0 y1 y2) (salchowref09_Token.j1 (k + 1) y0 y1 y2)) ∧ (∀ y0 y1 y2, LeO (salchowref09_Token.j3 k y0 y1 y2) (salchowref09_Token.j3 (k + 1) y0 y1 y2)) ∧ (∀ y0 y1 y2 y3, LeO (salchowref09_Token.j4 k y0 y1 y2 y3) (salchowref09_Token.j4 (k + 1) y0 y1 y2 y3)) ∧ (∀ y0 y1 y2, LeO (salchowref09_Token.l1 k y0 y1 y2) (salchowref09_Token.l1 (k + 1) y0 y1 y2)) ∧ (∀ y0 y1 y2, LeO (salchowref09_Token.l0 k y0 y1 y2) (salchowref09_Token.l0 (k + 1) y0 y1 y2))
  | 0 => ⟨fun _ _ _ r h => by simp [salchowref09_Token.j1] at h, fun _ _ _ r h => by simp [salchowref09_Token.j3] at h, fun _ _ _ _ r h => by simp [salchowref09_Token.j4] at h, fun _ _ _ r h => by simp [salchowref09_Token.l1] at h, fun _ _ _ r h => by simp [salchowref09_Token.l0] at h⟩
  | k + 1 => by
    obtain ⟨ih0, ih1, ih2, ih3, ih4⟩ := salchowref09_Token.mono_l k
    refine ⟨?_, ?_, ?_, ?_, ?_⟩
    · intro y0 y1 y2
      unfold salchowref09_Token.j1
      repeat' first
      | (with_reducible exact ih0 _ _ _)
      | (with_reducible exact ih1 _ _ _)
      | (with_reducible exact ih2 _ _ _ _)
      | (with_reducible exact ih3 _ _ _)
      | (with_reducible exact ih4 _ _ _)
      | (with_reducible exact salchowref09_Title.mono _ _)
      | (with_reducible exact salchowref09_has.mono _ _ _ _)
      | (with_reducible exact salchowref09_number.mono _ _)
      | (with_reducible exact salchowref09_sign.mono _ _)
      | (with_reducible exact LeO.refl _)
      | (with_reducible exact LeO.none _)
      | (with_reducible refine LeO.ite ?_ ?_)
      | (with_reducible refine LeO.bind ?_ (fun _ => ?_))
      | exact ih0 _ _ _
      | exact ih1 _ _ _
      | exact ih2 _ _ _ _
      | exact ih3 _ _ _
      | exact ih4 _ _ _
      | exact salchowref09_Title.mono _ _
      | exact salchowref09_has.mono _ _ _ _
      | exact salchowref09_number.mono _ _
      | exact salchowref09_sign.mono _ _
      | exact LeO.none _
      | refine LeO.ite ?_ ?_
      | refine LeO.bind ?_ (fun _ => ?_)
    · intro y0 y1 y2
      unfold salchowref09_Token.j3
      repeat' first
      | (with_reducible exact ih0 _ _ _)
      | (with_reducible exact ih1 _ _ _)
      | (with_reducible exact ih2 _ _ _ _)
      | (with_reducible exact ih3 _ _ _)
      | (with_reducible exact ih4 _ _ _)
      | (with_reducible exact salchowref09_Title.mono _ _)
      | (with_reducible exact salchowref09_has.mono _ _ _ _)
      | (with_reducible exact salchowref09_number.mono _ _)
      | (with_reducible exact salchowref09_sign.mono _ _)
      | (with_reducible exact LeO.refl _)
      | (with_reducible exact LeO.none _)
      | (with_reducible refine LeO.ite ?_ ?_)
      | (with_reducible refine LeO.bind ?_ (fun _ => ?_))
      | exact ih0 _ _ _
      | exact ih1 _ _ _
      | exact ih2 _ _ _ _
      | exact ih3 _ _ _
      | exact ih4 _ _ _
      | exact salchowref09_Title.mono _ _
      | exact salchowref09_has.mono _ _ _ _
      | exact salchowref09_number.mono _ _
      | exact salchowref09_sign.mono _ _
      | exact LeO.none _
      | refine LeO.ite ?_ ?_
      | refine LeO.bind ?_ (fun _ => ?_)
    · intro y0 y1 y2 y3
      unfold salchowref09_Token.j4
      repeat' first
      | (with_reducible exact ih0 _ _ _)
      | (with_reducible exact ih1 _ _ _)
      | (with_reducible exact ih2 _ _ _ _)
      | (with_reducible exact ih3 _ _ _)
      | (with_reducible exact ih4 _ _ _)
      | (with_reducible exact salchowref09_Title.mono _ _)
      | (with_reducible exact salchowref09_has.mono _ _ _ _)
      | (with_reducible exact salchowref09_number.mono _ _)
      | (with_reducible exact salchowref09_sign.mono _ _)
      | (with_reducible exact LeO.refl _)
      | (with_reducible exact LeO.none _)
      | (with_reducible refine LeO.ite ?_ ?_)
      | (with_reducible refine LeO.bind ?_ (fun _ => ?_))
      | exact ih0 _ _ _
      | exact ih1 _ _ _
      | exact ih2 _ _ _ _
      | exact ih3 _ _ _
      | exact ih4 _ _ _
      | exact salchowref09_Title.mono _ _
      | exact salchowref09_has.mono _ _ _ _
      | exact salchowref09_number.mono _ _
      | exact salchowref09_sign.mono _ _
      | exact LeO.none _
      | refine LeO.ite ?_ ?_
      | refine LeO.bind ?_ (fun _ => ?_)
    · intro y0 y1 y2
      unfold salchowref09_Token.l1
      repeat' first
      | (with_reducible exact ih0 _ _ _)
      | (with_reducible exact ih1 _ _ _)
      | (with_reducible exact ih2 _ _ _ _)
      | (with_reducible exact ih3 _ _ _)
      | (with_reducible exact ih4 _ _ _)
      | (with_reducible exact salchowref09_Title.mono _ _)
      | (with_reducible exact salchowref09_has.mono _ _ _ _)
      | (with_reducible exact salchowref09_number.mono _ _)
      | (with_reducible exact salchowref09_sign.mono _ _)
      | (with_reducible exact LeO.refl _)
      | (with_reducible exact LeO.none _)
      | (with_reducible refine LeO.ite ?_ ?_)
      | (with_reducible refine LeO.bind ?_ (fun _ => ?_))
      | exact ih0 _ _ _
      | exact ih1 _ _ _
      | exact ih2 _ _ _ _
      | exact ih3 _ _ _
      | exact ih4 _ _ _
      | exact salchowref09_Title.mono _ _
      | exact salchowref09_has.mono _ _ _ _
      | exact salchowref09_number.mono _ _
      | exact salchowref09_sign.mono _ _
      | exact LeO.none _
      | refine LeO.ite ?_ ?_
      | refine LeO.bind ?_ (fun _ => ?_)
    · intro y0 y1 y2
      unfold salchowref09_Token.l0
      repeat' first
      | (with_reducible exact ih0 _ _ _)
      | (with_reducible exact ih1 _ _ _)
      | (with_reducible exact ih2 _ _ _ _)
      | (with_reducible exact ih3 _ _ _)
      | (with_reducible exact ih4 _ _ _)
      | (with_reducible exact salchowref09_Title.mono _ _)
      | (with_reducible exact salchowref09_has.mono _ _ _ _)
      | (with_reducible exact salchowref09_number.mono _ _)
      | (with_reducible exact salchowref09_sign.mono _ _)
      | (with_reducible exact LeO.refl _)
      | (with_reducible exact LeO.none _)
      | (with_reducible refine LeO.ite ?_ ?_)
      | (with_reducible refine LeO.bind ?_ (fun _ => ?_))
      | exact ih0 _ _ _
      | exact ih1 _ _ _
      | exact ih2 _ _ _ _
      | exact ih3 _ _ _
      | exact ih4 _ _ _
      | exact salchowref09_Title.mono _ _
      | exact salchowref09_has.mono _ _ _ _
      | exact salchowref09_number.mono _ _
      | exact salchowref09_sign.mono _ _
      | exact LeO.none _
      | refine LeO.ite ?_ ?_
      | refine LeO.bind ?_ (fun _ => ?_)
theorem salchowref09_Token.mono : ∀ a0 a1 k, LeO (salchowref09_Token.f k a0 a1) (salchowref09_Token.f (k + 1) a0 a1) := by
  intro a0 a1 k
  obtain ⟨ih0, ih1, ih2, ih3, ih4⟩ := salchowref09_Token.mono_l k
  unfold salchowref09_Token.f
  repeat' first
      | (with_reducible exact ih0 _ _ _)
      | (with_reducible exact ih1 _ _ _)
      | (with_reducible exact ih2 _ _ _ _)
      | (with_reducible exact ih3 _ _ _)
      | (with_reducible exact ih4 _ _ _)
      | (with_reducible exact salchowref09_Title.mono _ _)
      | (with_reducible exact salchowref09_has.mono _ _ _ _)
      | (with_reducible exact salchowref09_number.mono _ _)
      | (with_reducible exact salchowref09_sign.mono _ _)
      | (with_reducible exact LeO.refl _)
      | (with_reducible exact LeO.none _)
      | (with_reducible refine LeO.ite ?_ ?_)
      | (with_reducible refine LeO.bind ?_ (fun _ => ?_))
      | exact ih0 _ _ _
      | exact ih1 _ _ _
      | exact ih2 _ _ _ _
      | exact ih3 _ _ _
      | exact ih4 _ _ _
      | exact salchowref09_Title.mono _ _
      | exact salchowref09_has.mono _ _ _ _
      | exact salchowref09_number.mono _ _
      | exact salchowref09_sign.mono _ _
      | exact LeO.none _
      | refine LeO.ite ?_ ?_
      | refine LeO.bind ?_ (fun _ => ?_)
set_option maxHeartbeats 8000000 in
set_option maxRecDepth 100000 in
theorem salchowref09_Token.calls (k : Nat) (a0 : ByteArray) (a1 : Int) (r1 : Int) (r2 : ByteArray) (r3 : Int) (r4 : Int) (r5 : Int) (r6 : Int) (w : World) (h : salchowref09_Token.f k a0 a1 = some (r1, r2, r3, r4, r5, r6)) :
    Calls Tryd.prog 66 #[.string a0, .int .i64 a1] w fun e w' => e = .returned (.tuple #[.agg #[.int .i64 r1, .string r2, .int .i64 r3, .int .i64 r4], .int .i64 r5, .int .i64 r6]) ∧ Below w.heap.size w w' := by
  have hu46 := Tryd.underlying46
  have HB := Aside0.mk (Below.refl w.heap.size w)
  have H : (if a1 = (a0.size : Int) then (some (5, (⟨#[]⟩ : ByteArray), 0, a1, a1, 0)) else (salchowref09_Token.l0 k a0 a1 a1)) = some (r1, r2, r3, r4, r5, r6) := h
  clear h
  by_cases c3 : a1 = (a0.size : Int)
  · rw [if_pos c3] at H
    have c3b0 : (a1 == (a0.size : Int)) = true := beq_iff_eq.mpr c3
    have c3b1 : (a1 != (a0.size : Int)) = false := bne_eq_false_iff_eq.mpr c3
    clear c3
    simp only [Option.some.injEq, Prod.mk.injEq] at H
    obtain ⟨rfl, rfl, rfl, rfl, rfl, rfl⟩ := H
    go_enter Tryd.func66, Tryd.ntmps66
    go_wp2_with (first | ((with_reducible refine gate_dst (N := 4) rfl ?_); refine box_event ?hg (N := 4) ?hd (cs := #[.int .i64 0, .string (⟨#[]⟩ : ByteArray), .int .i64 0, .int .i64 0]) (t := 46) ?hr ?_; (case hd => rfl); (case hg => rfl); (case hr => first | (go_simp; done) | (go_simp; rfl)); intro gb212 hg w4 hbox hb; have n0_ := Aside0.mk (below_step (bl_ HB.out) hb); have n1_ := Aside0.mk (hbox); have n2_ := Aside0.mk ((by rw [hg]; exact (below_size (bl_ HB.out)) : w.heap.size ≤ gb212)); have n3_ := Aside0.mk ((by rw [hg]; exact (below_size (bl_ HB.out)) : w.heap.size ≤ gb212)); clear HB; have HB := n0_; have BK212 := n1_; have GW212 := n2_; have GE212 := n3_; clear n0_ n1_ n2_ n3_; clear hb hbox hg; have hcz5_0 : w4.cell? ⟨gb212, 0, none⟩ = some (.int .i64 0) := (blk_cell BK212.out 0).trans rfl; have hcz5_1 : w4.cell? ⟨gb212, 1, none⟩ = some (.string (⟨#[]⟩ : ByteArray)) := (blk_cell BK212.out 1).trans rfl; have hcz5_2 : w4.cell? ⟨gb212, 2, none⟩ = some (.int .i64 0) := (blk_cell BK212.out 2).trans rfl; have hcz5_3 : w4.cell? ⟨gb212, 3, none⟩ = some (.int .i64 0) := (blk_cell BK212.out 3).trans rfl; have hfz5_0 := blk_frozen BK212.out 0; have hfz5_1 := blk_frozen BK212.out 1; have hfz5_2 := blk_frozen BK212.out 2; have hfz5_3 := blk_frozen BK212.out 3))
    refine bodyPost_ret (results_ctt rfl _ _ gb212 46 #[.int .i64 5, .string (⟨#[]⟩ : ByteArray), .int .i64 0, .int .i64 a1] (0, 0) _ rfl (by (with_reducible repeat (first | refine blk_drewN ?_ _ | refine blk_drew ?_ | refine blk_alloc ?_ _)); refine blk_put (cs := #[.int .i64 5, .string (⟨#[]⟩ : ByteArray), .int .i64 0, .int .i64 0]) ?_ 3 _ rfl; (with_reducible repeat (first | refine blk_drewN ?_ _ | refine blk_drew ?_ | refine blk_alloc ?_ _)); refine blk_put (cs := #[.int .i64 5, .string (⟨#[]⟩ : ByteArray), .int .i64 0, .int .i64 0]) ?_ 2 _ rfl; (with_reducible repeat (first | refine blk_drewN ?_ _ | refine blk_drew ?_ | refine blk_alloc ?_ _)); refine blk_put (cs := #[.int .i64 5, .string (⟨#[]⟩ : ByteArray), .int .i64 0, .int .i64 0]) ?_ 1 _ rfl; (with_reducible repeat (first | refine blk_drewN ?_ _ | refine blk_drew ?_ | refine blk_alloc ?_ _)); refine blk_put (cs := #[.int .i64 0, .string (⟨#[]⟩ : ByteArray), .int .i64 0, .int .i64 0]) ?_ 0 _ rfl; (with_reducible repeat (first | refine blk_drewN ?_ _ | refine blk_drew ?_ | refine blk_alloc ?_ _)); exact BK212.out) Tryd.underlying46 rfl (by kernel_rfl)) rfl ?_
    exact ⟨er_, bl1_ HB.out GE212.out⟩
  · rw [if_neg c3] at H
    have c3b0 : (a1 == (a0.size : Int)) = false := beq_eq_false_iff_ne.mpr c3
    have c3b1 : (a1 != (a0.size : Int)) = true := bne_iff_ne.mpr c3
    have HC6 := Aside0.mk H
    clear H
    go_enter Tryd.func66, Tryd.ntmps66
    go_upto_block 0 with (first | ((with_reducible refine gate_dst (N := 4) rfl ?_); refine box_event ?hg (N := 4) ?hd (cs := #[.int .i64 0, .string (⟨#[]⟩ : ByteArray), .int .i64 0, .int .i64 0]) (t := 46) ?hr ?_; (case hd => rfl); (case hg => rfl); (case hr => first | (go_simp; done) | (go_simp; rfl)); intro gb212 hg w7 hbox hb; have n0_ := Aside0.mk (below_step (bl_ HB.out) hb); have n1_ := Aside0.mk (hbox); have n2_ := Aside0.mk ((by rw [hg]; exact (below_size (bl_ HB.out)) : w.heap.size ≤ gb212)); have n3_ := Aside0.mk ((by rw [hg]; exact (below_size (bl_ HB.out)) : w.heap.size ≤ gb212)); clear HB; have HB := n0_; have BK212 := n1_; have GW212 := n2_; have GE212 := n3_; clear n0_ n1_ n2_ n3_; clear hb hbox hg))
    (try simp only [Act.put, List.setIfInBounds_toArray, List.set_cons_zero, List.set_cons_succ])
    go_cut [7] (fun v7 wc => ∃ (kq : Nat) (x7_5 : Int), v7 = .int .i64 x7_5 ∧ Aside0 (salchowref09_Token.j1 kq a0 a1 x7_5 = some (r1, r2, r3, r4, r5, r6)) ∧ Aside0 (kq ≤ k) ∧ Aside0 (wc.heap[gb212]? = some (.cells #[.int .i64 0, .string (⟨#[]⟩ : ByteArray), .int .i64 0, .int .i64 0] 46 (0, 0))) ∧ Aside0 (Below w.heap.size w wc))
    case first =>
      have H := HC6.out
      clear HC6
      have H' := Aside0.mk H
      clear H
      go_wp2
      go_loopg [7] k (fun kq v7 w' => ∃ (x7_1 : Int), v7 = .int .i64 x7_1 ∧ Aside0 (salchowref09_Token.l0 kq a0 a1 x7_1 = some (r1, r2, r3, r4, r5, r6)) ∧ Aside0 (kq ≤ k) ∧ Aside0 (w'.heap[gb212]? = some (.cells #[.int .i64 0, .string (⟨#[]⟩ : ByteArray), .int .i64 0, .int .i64 0] 46 (0, 0))) ∧ Aside0 (Below w.heap.size w w'))
      case atStart => exact ⟨(a1), (by first | rfl | (simp; done) | (simp [*]; done) | (simp <;> rfl)), H', ⟨Nat.le_refl _⟩, ⟨by (with_reducible repeat (first | refine blk_drewN ?_ _ | refine blk_drew ?_ | refine blk_alloc ?_ _)); exact BK212.out⟩, ⟨bl1_ HB.out GE212.out⟩⟩
      case round =>
        clear H'
        try clear p2
        try clear c3
        try clear c3b0
        try clear c3b1
        try clear c6
        try clear hcz5_0
        try clear hcz5_1
        try clear hcz5_2
        try clear hcz5_3
        try clear hfz5_0
        try clear hfz5_1
        try clear hfz5_2
        try clear hfz5_3
        obtain ⟨x7_1, rfl, HA, HK1, BK212, HB⟩ := hrel
        cases gk with
        | zero => exact absurd HA.out (by simp [salchowref09_Token.l0])
        | succ k1 =>
          have H := HA.out
          clear HA
          simp only [salchowref09_Token.l0] at H
          by_cases c8 : x7_1 < (a0.size : Int)
          · rw [if_pos c8] at H
            have c8b0 : decide (x7_1 < (a0.size : Int)) = true := decide_eq_true c8
            clear c8
            (first | rw [c8b0] | (simp only [i64_w, i32_w]; rw [c8b0]) | skip)
            by_cases c9 : 0 ≤ x7_1
            · rw [if_pos c9] at H
              have c9b0 : decide (0 ≤ x7_1) = true := decide_eq_true c9
              clear c9
              replace H := Option.bind_eq_some_iff.mp H
              obtain ⟨t213, A110, H⟩ := H
              replace H : (if t213 = true then (salchowref09_Token.l0 k1 a0 a1 (wrap64 (x7_1 + 1))) else (salchowref09_Token.j1 k1 a0 a1 x7_1)) = some (r1, r2, r3, r4, r5, r6) := H
              have A11 := Aside0.mk A110
              clear A110
              by_cases c12 : t213 = true
              · subst c12
                have H1 : (salchowref09_Token.l0 k1 a0 a1 (wrap64 (x7_1 + 1))) = some (r1, r2, r3, r4, r5, r6) := by rw [if_pos rfl] at H; exact H
                clear H
                have H := H1
                clear H1
                have H' := Aside0.mk H
                clear H
                have p10 : 0 ≤ (x7_1 : Int) := of_decide_eq_true (by first | (with_reducible assumption) | assumption)
                have q10 : x7_1 < (a0.size : Int) := of_decide_eq_true (by first | (with_reducible assumption) | assumption)
                have hx10 := bt_at a0 x7_1
                replace p10 := eq_true p10
                replace q10 := eq_true q10
                go_wp2_with (first | (go_at_call 93; (with_reducible refine (salchowref09_run.calls (bt a0 x7_1) true _ A11.out).mono ?_); rintro e w' ⟨rfl, ⟨nd, rfl⟩⟩))
                go_roundg k1
                case measure => have := HK1.out; omega
                case rel => exact ⟨(wrap64 (x7_1 + 1)), (by first | rfl | (simp; done) | (simp [*]; done) | (simp <;> rfl)), H', ⟨by have := HK1.out; omega⟩, ⟨by (with_reducible repeat (first | refine blk_drewN ?_ _ | refine blk_drew ?_ | refine blk_alloc ?_ _)); exact BK212.out⟩, ⟨bl1_ HB.out GE212.out⟩⟩
              · replace c12 := Bool.eq_false_iff.mpr c12
                subst c12
                have H1 : (salchowref09_Token.j1 k1 a0 a1 x7_1) = some (r1, r2, r3, r4, r5, r6) := by rw [if_neg (show ¬ (false = true) by decide)] at H; exact H
                clear H
                have H := H1
                clear H1
                have H' := Aside0.mk H
                clear H
                have p10 : 0 ≤ (x7_1 : Int) := of_decide_eq_true (by first | (with_reducible assumption) | assumption)
                have q10 : x7_1 < (a0.size : Int) := of_decide_eq_true (by first | (with_reducible assumption) | assumption)
                have hx10 := bt_at a0 x7_1
                replace p10 := eq_true p10
                replace q10 := eq_true q10
                go_wp2_with (first | (go_at_call 93; (with_reducible refine (salchowref09_run.calls (bt a0 x7_1) false _ A11.out).mono ?_); rintro e w' ⟨rfl, ⟨nd, rfl⟩⟩))
                go_meet
                case rel => exact ⟨_, (x7_1), (by first | rfl | (simp; done) | (simp [*]; done) | (simp <;> rfl)), H', ⟨by have := HK1.out; first | omega | exact Nat.le_refl _⟩, ⟨by (with_reducible repeat (first | refine blk_drewN ?_ _ | refine blk_drew ?_ | refine blk_alloc ?_ _)); exact BK212.out⟩, ⟨bl1_ HB.out GE212.out⟩⟩
            · rw [if_neg c9] at H
              exact absurd H (by simp)
          · rw [if_neg c8] at H
            have c8b0 : decide (x7_1 < (a0.size : Int)) = false := decide_eq_false c8
            clear c8
            (first | rw [c8b0] | (simp only [i64_w, i32_w]; rw [c8b0]) | skip)
            have H' := Aside0.mk H
            clear H
            go_wp2
            go_meet
            case rel => exact ⟨_, (x7_1), (by first | rfl | (simp; done) | (simp [*]; done) | (simp <;> rfl)), H', ⟨by have := HK1.out; first | omega | exact Nat.le_refl _⟩, ⟨by (with_reducible repeat (first | refine blk_drewN ?_ _ | refine blk_drew ?_ | refine blk_alloc ?_ _)); exact BK212.out⟩, ⟨bl1_ HB.out GE212.out⟩⟩
    case rest =>
      clear HC6
      try clear c1
      try clear p1
      try clear q1
      try clear hx1
      try clear p2
      try clear c3
      try clear c3b0
      try clear c3b1
      try clear c6
      try clear p6
      try clear c8
      try clear c8b0
      try clear c9
      try clear c9b0
      try clear p10
      try clear q10
      try clear hx10
      try clear c12
      try clear hcz5_0
      try clear hcz5_1
      try clear hcz5_2
      try clear hcz5_3
      try clear hfz5_0
      try clear hfz5_1
      try clear hfz5_2
      try clear hfz5_3
      try clear p10
      try clear p2
      try clear q10
      obtain ⟨kq, x7_5, rfl, HA, HJ5, BK212, HB⟩ := hcut
      cases kq with
      | zero => exact absurd HA.out (by simp [salchowref09_Token.j1])
      | succ kj5 =>
        have H := HA.out
        clear HA
        simp only [salchowref09_Token.j1] at H
        by_cases c13 : 0 ≤ a1
        · rw [if_pos c13] at H
          have c13b0 := eq_true c13
          have c13b1 : decide (0 ≤ a1) = true := decide_eq_true c13
          clear c13
          by_cases c14 : a1 ≤ x7_5
          · rw [if_pos c14] at H
            have c14b0 := eq_true c14
            have c14b1 : decide (a1 ≤ x7_5) = true := decide_eq_true c14
            clear c14
            by_cases c15 : x7_5 ≤ (a0.size : Int)
            · rw [if_pos c15] at H
              have c15b0 := eq_true c15
              have c15b1 : decide (x7_5 ≤ (a0.size : Int)) = true := decide_eq_true c15
              clear c15
              by_cases c16 : a1 < (a0.size : Int)
              · rw [if_pos c16] at H
                have c16b0 : decide (a1 < (a0.size : Int)) = true := decide_eq_true c16
                clear c16
                by_cases c18 : (bt a0 a1) = 34
                · rw [if_pos c18] at H
                  have c18b0 : ((bt a0 a1) == 34) = true := beq_iff_eq.mpr c18
                  have c18b1 : ((bt a0 a1) != 34) = false := bne_eq_false_iff_eq.mpr c18
                  clear c18
                  have HC19 := Aside0.mk H
                  clear H
                  have p17 : 0 ≤ (a1 : Int) := of_decide_eq_true (by first | (with_reducible assumption) | assumption)
                  have q17 : a1 < (a0.size : Int) := of_decide_eq_true (by first | (with_reducible assumption) | assumption)
                  have hx17 := bt_at a0 a1
                  replace p17 := eq_true p17
                  replace q17 := eq_true q17
                  go_upto_block 3 with (fail)
                  go_cut [7] (fun v7 wc => ∃ (kq : Nat) (x7_18 : Int), v7 = .int .i64 x7_18 ∧ Aside0 (salchowref09_Token.j3 kq a0 a1 x7_18 = some (r1, r2, r3, r4, r5, r6)) ∧ Aside0 (kq ≤ kj5) ∧ Aside0 (wc.heap[gb212]? = some (.cells #[.int .i64 0, .string (⟨#[]⟩ : ByteArray), .int .i64 0, .int .i64 0] 46 (0, 0))) ∧ Aside0 (Below w.heap.size w wc))
                  case first =>
                    have H := HC19.out
                    clear HC19
                    have H' := Aside0.mk H
                    clear H
                    go_wp2
                    go_loopg [7] kj5 (fun kq v7 w' => ∃ (x7_2 : Int), v7 = .int .i64 x7_2 ∧ Aside0 (salchowref09_Token.l1 kq a0 a1 x7_2 = some (r1, r2, r3, r4, r5, r6)) ∧ Aside0 (kq ≤ kj5) ∧ Aside0 (w'.heap[gb212]? = some (.cells #[.int .i64 0, .string (⟨#[]⟩ : ByteArray), .int .i64 0, .int .i64 0] 46 (0, 0))) ∧ Aside0 (Below w.heap.size w w'))
                    case atStart => exact ⟨(wrap64 (a1 + 1)), (by first | rfl | (simp; done) | (simp [*]; done) | (simp <;> rfl)), H', ⟨Nat.le_refl _⟩, ⟨by (with_reducible repeat (first | refine blk_drewN ?_ _ | refine blk_drew ?_ | refine blk_alloc ?_ _)); exact BK212.out⟩, ⟨bl1_ HB.out GE212.out⟩⟩
                    case round =>
                      clear H'
                      try clear c1
                      try clear p1
                      try clear q1
                      try clear hx1
                      try clear p2
                      try clear c3
                      try clear c3b0
                      try clear c3b1
                      try clear c6
                      try clear p6
                      try clear c8
                      try clear c8b0
                      try clear c9
                      try clear c9b0
                      try clear p10
                      try clear q10
                      try clear hx10
                      try clear c12
                      try clear c13
                      try clear c13b0
                      try clear c13b1
                      try clear c14
                      try clear c14b0
                      try clear c14b1
                      try clear c15
                      try clear c15b0
                      try clear c15b1
                      try clear c16
                      try clear c16b0
                      try clear p17
                      try clear q17
                      try clear hx17
                      try clear c18
                      try clear c18b0
                      try clear c18b1
                      try clear hcz5_0
                      try clear hcz5_1
                      try clear hcz5_2
                      try clear hcz5_3
                      try clear hfz5_0
                      try clear hfz5_1
                      try clear hfz5_2
                      try clear hfz5_3
                      try clear p1
                      try clear p10
                      try clear p17
                      try clear p2
                      try clear p6
                      try clear q1
                      try clear q10
                      try clear q17
                      obtain ⟨x7_2, rfl, HA, HK2, BK212, HB⟩ := hrel
                      cases gk with
                      | zero => exact absurd HA.out (by simp [salchowref09_Token.l1])
                      | succ k2 =>
                        have H := HA.out
                        clear HA
                        simp only [salchowref09_Token.l1] at H
                        by_cases c20 : x7_2 < (a0.size : Int)
                        · rw [if_pos c20] at H
                          have c20b0 : decide (x7_2 < (a0.size : Int)) = true := decide_eq_true c20
                          clear c20
                          (first | rw [c20b0] | (simp only [i64_w, i32_w]; rw [c20b0]) | skip)
                          by_cases c21 : 0 ≤ x7_2
                          · rw [if_pos c21] at H
                            have c21b0 : decide (0 ≤ x7_2) = true := decide_eq_true c21
                            clear c21
                            by_cases c23 : (bt a0 x7_2) = 34
                            · rw [if_pos c23] at H
                              have c23b0 : ((bt a0 x7_2) == 34) = true := beq_iff_eq.mpr c23
                              have c23b1 : ((bt a0 x7_2) != 34) = false := bne_eq_false_iff_eq.mpr c23
                              clear c23
                              have H' := Aside0.mk H
                              clear H
                              have p22 : 0 ≤ (x7_2 : Int) := of_decide_eq_true (by first | (with_reducible assumption) | assumption)
                              have q22 : x7_2 < (a0.size : Int) := of_decide_eq_true (by first | (with_reducible assumption) | assumption)
                              have hx22 := bt_at a0 x7_2
                              replace p22 := eq_true p22
                              replace q22 := eq_true q22
                              go_wp2
                              go_meet
                              case rel => exact ⟨_, (x7_2), (by first | rfl | (simp; done) | (simp [*]; done) | (simp <;> rfl)), H', ⟨by have := HJ5.out; have := HK2.out; first | omega | exact Nat.le_refl _⟩, ⟨by (with_reducible repeat (first | refine blk_drewN ?_ _ | refine blk_drew ?_ | refine blk_alloc ?_ _)); exact BK212.out⟩, ⟨bl1_ HB.out GE212.out⟩⟩
                            · rw [if_neg c23] at H
                              have c23b0 : ((bt a0 x7_2) == 34) = false := beq_eq_false_iff_ne.mpr c23
                              have c23b1 : ((bt a0 x7_2) != 34) = true := bne_iff_ne.mpr c23
                              by_cases c25 : (bt a0 x7_2) = 10
                              · rw [if_pos c25] at H
                                have c25b0 : ((bt a0 x7_2) == 10) = true := beq_iff_eq.mpr c25
                                have c25b1 : ((bt a0 x7_2) != 10) = false := bne_eq_false_iff_eq.mpr c25
                                clear c25
                                have H' := Aside0.mk H
                                clear H
                                have p22 : 0 ≤ (x7_2 : Int) := of_decide_eq_true (by first | (with_reducible assumption) | assumption)
                                have q22 : x7_2 < (a0.size : Int) := of_decide_eq_true (by first | (with_reducible assumption) | assumption)
                                have hx22 := bt_at a0 x7_2
                                replace p22 := eq_true p22
                                replace q22 := eq_true q22
                                have p24 : 0 ≤ (x7_2 : Int) := of_decide_eq_true (by first | (with_reducible assumption) | assumption)
                                have q24 : x7_2 < (a0.size : Int) := of_decide_eq_true (by first | (with_reducible assumption) | assumption)
                                have hx24 := bt_at a0 x7_2
                                replace p24 := eq_true p24
                                replace q24 := eq_true q24
                                go_wp2
                                go_meet
                                case rel => exact ⟨_, (x7_2), (by first | rfl | (simp; done) | (simp [*]; done) | (simp <;> rfl)), H', ⟨by have := HJ5.out; have := HK2.out; first | omega | exact Nat.le_refl _⟩, ⟨by (with_reducible repeat (first | refine blk_drewN ?_ _ | refine blk_drew ?_ | refine blk_alloc ?_ _)); exact BK212.out⟩, ⟨bl1_ HB.out GE212.out⟩⟩
                              · rw [if_neg c25] at H
                                have c25b0 : ((bt a0 x7_2) == 10) = false := beq_eq_false_iff_ne.mpr c25
                                have c25b1 : ((bt a0 x7_2) != 10) = true := bne_iff_ne.mpr c25
                                have H' := Aside0.mk H
                                clear H
                                have p22 : 0 ≤ (x7_2 : Int) := of_decide_eq_true (by first | (with_reducible assumption) | assumption)
                                have q22 : x7_2 < (a0.size : Int) := of_decide_eq_true (by first | (with_reducible assumption) | assumption)
                                have hx22 := bt_at a0 x7_2
                                replace p22 := eq_true p22
                                replace q22 := eq_true q22
                                have p24 : 0 ≤ (x7_2 : Int) := of_decide_eq_true (by first | (with_reducible assumption) | assumption)
                                have q24 : x7_2 < (a0.size : Int) := of_decide_eq_true (by first | (with_reducible assumption) | assumption)
                                have hx24 := bt_at a0 x7_2
                                replace p24 := eq_true p24
                                replace q24 := eq_true q24
                                go_wp2
                                go_roundg k2
                                case measure => have := HJ5.out; have := HK2.out; omega
                                case rel => exact ⟨(wrap64 (x7_2 + 1)), (by first | rfl | (simp; done) | (simp [*]; done) | (simp <;> rfl)), H', ⟨by have := HJ5.out; have := HK2.out; omega⟩, ⟨by (with_reducible repeat (first | refine blk_drewN ?_ _ | refine blk_drew ?_ | refine blk_alloc ?_ _)); exact BK212.out⟩, ⟨bl1_ HB.out GE212.out⟩⟩
                          · rw [if_neg c21] at H
                            exact absurd H (by simp)
                        · rw [if_neg c20] at H
                          have c20b0 : decide (x7_2 < (a0.size : Int)) = false := decide_eq_false c20
                          clear c20
                          (first | rw [c20b0] | (simp only [i64_w, i32_w]; rw [c20b0]) | skip)
                          have H' := Aside0.mk H
                          clear H
                          go_wp2
                          go_meet
                          case rel => exact ⟨_, (x7_2), (by first | rfl | (simp; done) | (simp [*]; done) | (simp <;> rfl)), H', ⟨by have := HJ5.out; have := HK2.out; first | omega | exact Nat.le_refl _⟩, ⟨by (with_reducible repeat (first | refine blk_drewN ?_ _ | refine blk_drew ?_ | refine blk_alloc ?_ _)); exact BK212.out⟩, ⟨bl1_ HB.out GE212.out⟩⟩
                  case rest =>
                    clear HC19
                    try clear c1
                    try clear p1
                    try clear q1
                    try clear hx1
                    try clear c2
                    try clear p2
                    try clear q2
                    try clear hx2
                    try clear c3
                    try clear c3b0
                    try clear c3b1
                    try clear c6
                    try clear p6
                    try clear c8
                    try clear c8b0
                    try clear c9
                    try clear c9b0
                    try clear p10
                    try clear q10
                    try clear hx10
                    try clear c12
                    try clear c13
                    try clear c13b0
                    try clear c13b1
                    try clear c14
                    try clear c14b0
                    try clear c14b1
                    try clear c15
                    try clear c15b0
                    try clear c15b1
                    try clear c16
                    try clear c16b0
                    try clear p17
                    try clear q17
                    try clear hx17
                    try clear c18
                    try clear c18b0
                    try clear c18b1
                    try clear c20
                    try clear c20b0
                    try clear c21
                    try clear c21b0
                    try clear p22
                    try clear q22
                    try clear hx22
                    try clear c23
                    try clear c23b0
                    try clear c23b1
                    try clear p24
                    try clear q24
                    try clear hx24
                    try clear c25
                    try clear c25b0
                    try clear c25b1
                    try clear hcz5_0
                    try clear hcz5_1
                    try clear hcz5_2
                    try clear hcz5_3
                    try clear hfz5_0
                    try clear hfz5_1
                    try clear hfz5_2
                    try clear hfz5_3
                    try clear p1
                    try clear p10
                    try clear p17
                    try clear p2
                    try clear p22
                    try clear p24
                    try clear p6
                    try clear q1
                    try clear q10
                    try clear q17
                    try clear q22
                    try clear q24
                    obtain ⟨kq, x7_18, rfl, HA, HJ18, BK212, HB⟩ := hcut
                    cases kq with
                    | zero => exact absurd HA.out (by simp [salchowref09_Token.j3])
                    | succ kj18 =>
                      have H := HA.out
                      clear HA
                      simp only [salchowref09_Token.j3] at H
                      have HC26 := Aside0.mk H
                      clear H
                      go_upto_region 11 with (fail)
                      go_cut [70] (fun v70 wc => ∃ (kq : Nat) (x70_25 : Bool), v70 = .bool x70_25 ∧ Aside0 (salchowref09_Token.j4 kq a0 a1 x7_18 x70_25 = some (r1, r2, r3, r4, r5, r6)) ∧ Aside0 (kq ≤ kj18) ∧ Aside0 (wc.heap[gb212]? = some (.cells #[.int .i64 0, .string (⟨#[]⟩ : ByteArray), .int .i64 0, .int .i64 0] 46 (0, 0))) ∧ Aside0 (Below w.heap.size w wc))
                      case first =>
                        have H := HC26.out
                        clear HC26
                        by_cases c27 : x7_18 = (a0.size : Int)
                        · rw [if_pos c27] at H
                          have c27b0 : (x7_18 == (a0.size : Int)) = true := beq_iff_eq.mpr c27
                          have c27b1 : (x7_18 != (a0.size : Int)) = false := bne_eq_false_iff_eq.mpr c27
                          clear c27
                          (first | rw [c27b0] | (simp only [i64_w, i32_w]; rw [c27b0]) | skip)
                          have H' := Aside0.mk H
                          clear H
                          go_wp2
                          go_meet
                          case rel => exact ⟨_, (true), (by first | rfl | (simp; done) | (simp [*]; done) | (simp <;> rfl)), H', ⟨by have := HJ5.out; have := HJ18.out; first | omega | exact Nat.le_refl _⟩, ⟨by (with_reducible repeat (first | refine blk_drewN ?_ _ | refine blk_drew ?_ | refine blk_alloc ?_ _)); exact BK212.out⟩, ⟨bl1_ HB.out GE212.out⟩⟩
                        · rw [if_neg c27] at H
                          have c27b0 : (x7_18 == (a0.size : Int)) = false := beq_eq_false_iff_ne.mpr c27
                          have c27b1 : (x7_18 != (a0.size : Int)) = true := bne_iff_ne.mpr c27
                          (first | rw [c27b0] | (simp only [i64_w, i32_w]; rw [c27b0]) | skip)
                          by_cases c28 : 0 ≤ x7_18
                          · rw [if_pos c28] at H
                            have c28b0 : decide (0 ≤ x7_18) = true := decide_eq_true c28
                            clear c28
                            by_cases c29 : x7_18 < (a0.size : Int)
                            · rw [if_pos c29] at H
                              have c29b0 : decide (x7_18 < (a0.size : Int)) = true := decide_eq_true c29
                              clear c29
                              have H' := Aside0.mk H
                              clear H
                              have p30 : 0 ≤ (x7_18 : Int) := of_decide_eq_true (by first | (with_reducible assumption) | assumption)
                              have q30 : x7_18 < (a0.size : Int) := of_decide_eq_true (by first | (with_reducible assumption) | assumption)
                              have hx30 := bt_at a0 x7_18
                              replace p30 := eq_true p30
                              replace q30 := eq_true q30
                              go_wp2
                              go_meet
                              case rel => exact ⟨_, (((bt a0 x7_18) != 34)), (by first | rfl | (simp; done) | (simp [*]; done) | (simp <;> rfl)), H', ⟨by have := HJ5.out; have := HJ18.out; first | omega | exact Nat.le_refl _⟩, ⟨by (with_reducible repeat (first | refine blk_drewN ?_ _ | refine blk_drew ?_ | refine blk_alloc ?_ _)); exact BK212.out⟩, ⟨bl1_ HB.out GE212.out⟩⟩
                            · rw [if_neg c29] at H
                              exact absurd H (by simp)
                          · rw [if_neg c28] at H
                            exact absurd H (by simp)
                      case rest =>
                        clear HC26
                        try clear c1
                        try clear p1
                        try clear q1
                        try clear hx1
                        try clear c2
                        try clear p2
                        try clear q2
                        try clear hx2
                        try clear c3
                        try clear c3b0
                        try clear c3b1
                        try clear p3
                        try clear q3
                        try clear hx3
                        try clear c6
                        try clear p6
                        try clear c8
                        try clear c8b0
                        try clear c9
                        try clear c9b0
                        try clear p10
                        try clear q10
                        try clear hx10
                        try clear c12
                        try clear c13
                        try clear c13b0
                        try clear c13b1
                        try clear c14
                        try clear c14b0
                        try clear c14b1
                        try clear c15
                        try clear c15b0
                        try clear c15b1
                        try clear c16
                        try clear c16b0
                        try clear p17
                        try clear q17
                        try clear hx17
                        try clear c18
                        try clear c18b0
                        try clear c18b1
                        try clear c20
                        try clear c20b0
                        try clear c21
                        try clear c21b0
                        try clear p22
                        try clear q22
                        try clear hx22
                        try clear c23
                        try clear c23b0
                        try clear c23b1
                        try clear p24
                        try clear q24
                        try clear hx24
                        try clear c25
                        try clear c25b0
                        try clear c25b1
                        try clear c27
                        try clear c27b0
                        try clear c27b1
                        try clear c28
                        try clear c28b0
                        try clear c29
                        try clear c29b0
                        try clear p30
                        try clear q30
                        try clear hx30
                        try clear hcz5_0
                        try clear hcz5_1
                        try clear hcz5_2
                        try clear hcz5_3
                        try clear hfz5_0
                        try clear hfz5_1
                        try clear hfz5_2
                        try clear hfz5_3
                        try clear p1
                        try clear p10
                        try clear p17
                        try clear p2
                        try clear p22
                        try clear p24
                        try clear p30
                        try clear p6
                        try clear q1
                        try clear q10
                        try clear q17
                        try clear q2
                        try clear q22
                        try clear q24
                        try clear q30
                        obtain ⟨kq, x70_25, rfl, HA, HJ25, BK212, HB⟩ := hcut
                        cases kq with
                        | zero => exact absurd HA.out (by simp [salchowref09_Token.j4])
                        | succ kj25 =>
                          have H := HA.out
                          clear HA
                          simp only [salchowref09_Token.j4] at H
                          by_cases c31 : x70_25 = true
                          · subst c31
                            have H1 : (some (0, (⟨#[]⟩ : ByteArray), 0, 0, 0, 2)) = some (r1, r2, r3, r4, r5, r6) := by rw [if_pos rfl] at H; exact H
                            clear H
                            have H := H1
                            clear H1
                            simp only [Option.some.injEq, Prod.mk.injEq] at H
                            obtain ⟨rfl, rfl, rfl, rfl, rfl, rfl⟩ := H
                            have hcz32_0 : wc.cell? ⟨gb212, 0, none⟩ = some (.int .i64 0) := (blk_cell BK212.out 0).trans rfl
                            have hcz32_1 : wc.cell? ⟨gb212, 1, none⟩ = some (.string (⟨#[]⟩ : ByteArray)) := (blk_cell BK212.out 1).trans rfl
                            have hcz32_2 : wc.cell? ⟨gb212, 2, none⟩ = some (.int .i64 0) := (blk_cell BK212.out 2).trans rfl
                            have hcz32_3 : wc.cell? ⟨gb212, 3, none⟩ = some (.int .i64 0) := (blk_cell BK212.out 3).trans rfl
                            have hfz32_0 := blk_frozen BK212.out 0
                            have hfz32_1 := blk_frozen BK212.out 1
                            have hfz32_2 := blk_frozen BK212.out 2
                            have hfz32_3 := blk_frozen BK212.out 3
                            go_wp2
                            refine bodyPost_ret (results_ctt rfl _ _ gb212 46 #[.int .i64 0, .string (⟨#[]⟩ : ByteArray), .int .i64 0, .int .i64 0] (0, 0) _ rfl (by (with_reducible repeat (first | refine blk_drewN ?_ _ | refine blk_drew ?_ | refine blk_alloc ?_ _)); refine blk_put (cs := #[.int .i64 0, .string (⟨#[]⟩ : ByteArray), .int .i64 0, .int .i64 0]) ?_ 3 _ rfl; (with_reducible repeat (first | refine blk_drewN ?_ _ | refine blk_drew ?_ | refine blk_alloc ?_ _)); refine blk_put (cs := #[.int .i64 0, .string (⟨#[]⟩ : ByteArray), .int .i64 0, .int .i64 0]) ?_ 2 _ rfl; (with_reducible repeat (first | refine blk_drewN ?_ _ | refine blk_drew ?_ | refine blk_alloc ?_ _)); refine blk_put (cs := #[.int .i64 0, .string (⟨#[]⟩ : ByteArray), .int .i64 0, .int .i64 0]) ?_ 1 _ rfl; (with_reducible repeat (first | refine blk_drewN ?_ _ | refine blk_drew ?_ | refine blk_alloc ?_ _)); refine blk_put (cs := #[.int .i64 0, .string (⟨#[]⟩ : ByteArray), .int .i64 0, .int .i64 0]) ?_ 0 _ rfl; (with_reducible repeat (first | refine blk_drewN ?_ _ | refine blk_drew ?_ | refine blk_alloc ?_ _)); exact BK212.out) Tryd.underlying46 rfl (by kernel_rfl)) rfl ?_
                            exact ⟨er_, bl1_ HB.out GE212.out⟩
                          · replace c31 := Bool.eq_false_iff.mpr c31
                            subst c31
                            have H1 : (if 0 ≤ (wrap64 (a1 + 1)) then (if (wrap64 (a1 + 1)) ≤ x7_18 then (if x7_18 ≤ (a0.size : Int) then ((salchowref09_Title.f kj25 (a0.extract ((wrap64 (a1 + 1)) : Int).toNat (x7_18 : Int).toNat)).bind fun t214 => (if t214 = 0 then (some (3, a0.extract ((wrap64 (a1 + 1)) : Int).toNat (x7_18 : Int).toNat, 0, a1, wrap64 (x7_18 + 1), 0)) else (some (0, (⟨#[]⟩ : ByteArray), 0, 0, 0, t214)))) else (none)) else (none)) else (none)) = some (r1, r2, r3, r4, r5, r6) := by rw [if_neg (show ¬ (false = true) by decide)] at H; exact H
                            clear H
                            have H := H1
                            clear H1
                            obtain ⟨ji33, hji33⟩ : ∃ j_ : Int, (wrap64 (a1 + 1)) = j_ := ⟨_, rfl⟩
                            replace H : (if 0 ≤ (ji33) then (if (ji33) ≤ x7_18 then (if x7_18 ≤ (a0.size : Int) then ((salchowref09_Title.f kj25 (a0.extract ((ji33) : Int).toNat (x7_18 : Int).toNat)).bind fun t214 => (if t214 = 0 then (some (3, a0.extract ((ji33) : Int).toNat (x7_18 : Int).toNat, 0, a1, wrap64 (x7_18 + 1), 0)) else (some (0, (⟨#[]⟩ : ByteArray), 0, 0, 0, t214)))) else (none)) else (none)) else (none)) = some (r1, r2, r3, r4, r5, r6) := by first | (rw [hji33] at H; exact H) | (simp only [hji33] at H ⊢; exact H)
                            have hji33w : (IntKind.i64.wrap (a1 + 1)) = ji33 := (i64_w _).trans hji33
                            by_cases c34 : 0 ≤ (ji33)
                            · rw [if_pos c34] at H
                              have c34b0 := eq_true c34
                              have c34b1 : decide (0 ≤ (ji33)) = true := decide_eq_true c34
                              clear c34
                              by_cases c35 : (ji33) ≤ x7_18
                              · rw [if_pos c35] at H
                                have c35b0 := eq_true c35
                                have c35b1 : decide ((ji33) ≤ x7_18) = true := decide_eq_true c35
                                clear c35
                                by_cases c36 : x7_18 ≤ (a0.size : Int)
                                · rw [if_pos c36] at H
                                  have c36b0 := eq_true c36
                                  have c36b1 : decide (x7_18 ≤ (a0.size : Int)) = true := decide_eq_true c36
                                  clear c36
                                  replace H := Option.bind_eq_some_iff.mp H
                                  obtain ⟨t214, A370, H⟩ := H
                                  replace H : (if t214 = 0 then (some (3, a0.extract ((ji33) : Int).toNat (x7_18 : Int).toNat, 0, a1, wrap64 (x7_18 + 1), 0)) else (some (0, (⟨#[]⟩ : ByteArray), 0, 0, 0, t214))) = some (r1, r2, r3, r4, r5, r6) := H
                                  have A37 := Aside0.mk A370
                                  clear A370
                                  by_cases c38 : t214 = 0
                                  · rw [if_pos c38] at H
                                    have c38b0 : (t214 == 0) = true := beq_iff_eq.mpr c38
                                    have c38b1 : (t214 != 0) = false := bne_eq_false_iff_eq.mpr c38
                                    clear c38
                                    have c39b0 := eq_true (of_decide_eq_true (by first | (with_reducible assumption) | assumption) : 0 ≤ (ji33))
                                    have c40b0 := eq_true (of_decide_eq_true (by first | (with_reducible assumption) | assumption) : (ji33) ≤ x7_18)
                                    have c41b0 := eq_true (of_decide_eq_true (by first | (with_reducible assumption) | assumption) : x7_18 ≤ (a0.size : Int))
                                    simp only [Option.some.injEq, Prod.mk.injEq] at H
                                    obtain ⟨rfl, rfl, rfl, rfl, rfl, rfl⟩ := H
                                    go_wp2_with (first | ((with_reducible refine gate_callee (f := 94) rfl ?_); refine goesL_ (some 77) rfl rfl Tryd.func94 (by kernel_rfl) rfl #[.string (a0.extract ((ji33) : Int).toNat (x7_18 : Int).toNat)] rfl (by (try simp only [List.map_toArray, List.map_cons, List.map_nil]); first | done | (simp only [hji33]; rfl) | rfl | (simp only [List.length_drop, List.length_take]; rfl)) ?_; (with_reducible refine (salchowref09_Title.calls kj25 (a0.extract ((ji33) : Int).toNat (x7_18 : Int).toNat) t214 _ A37.out).mono ?_); rintro e w' ⟨rfl, ⟨nd, rfl⟩⟩; refine ⟨_, rfl, ?_⟩; (try (rw [drewN_self wc]; generalize hq_ : World.drewN wc _ = wc; have n0_ : Aside0 (wc.heap[gb212]? = some (.cells #[.int .i64 0, .string (⟨#[]⟩ : ByteArray), .int .i64 0, .int .i64 0] 46 (0, 0))) := ⟨by rw [← hq_]; exact (bk_ BK212.out)⟩; have n1_ : Aside0 (Below w.heap.size w wc) := ⟨by rw [← hq_]; exact (bl1_ HB.out GE212.out)⟩; clear BK212 HB hq_; have BK212 := n0_; have HB := n1_; clear n0_ n1_)); have hcz42_0 : wc.cell? ⟨gb212, 0, none⟩ = some (.int .i64 0) := (blk_cell BK212.out 0).trans rfl; have hcz42_1 : wc.cell? ⟨gb212, 1, none⟩ = some (.string (⟨#[]⟩ : ByteArray)) := (blk_cell BK212.out 1).trans rfl; have hcz42_2 : wc.cell? ⟨gb212, 2, none⟩ = some (.int .i64 0) := (blk_cell BK212.out 2).trans rfl; have hcz42_3 : wc.cell? ⟨gb212, 3, none⟩ = some (.int .i64 0) := (blk_cell BK212.out 3).trans rfl; have hfz42_0 := blk_frozen BK212.out 0; have hfz42_1 := blk_frozen BK212.out 1; have hfz42_2 := blk_frozen BK212.out 2; have hfz42_3 := blk_frozen BK212.out 3))
                                    refine bodyPost_ret (results_ctt rfl _ _ gb212 46 #[.int .i64 3, .string (a0.extract ((ji33) : Int).toNat (x7_18 : Int).toNat), .int .i64 0, .int .i64 a1] (0, 0) _ rfl (by (with_reducible repeat (first | refine blk_drewN ?_ _ | refine blk_drew ?_ | refine blk_alloc ?_ _)); refine blk_put (cs := #[.int .i64 3, .string (a0.extract ((ji33) : Int).toNat (x7_18 : Int).toNat), .int .i64 0, .int .i64 0]) ?_ 3 _ rfl; (with_reducible repeat (first | refine blk_drewN ?_ _ | refine blk_drew ?_ | refine blk_alloc ?_ _)); refine blk_put (cs := #[.int .i64 3, .string (a0.extract ((ji33) : Int).toNat (x7_18 : Int).toNat), .int .i64 0, .int .i64 0]) ?_ 2 _ rfl; (with_reducible repeat (first | refine blk_drewN ?_ _ | refine blk_drew ?_ | refine blk_alloc ?_ _)); refine blk_put (cs := #[.int .i64 3, .string (⟨#[]⟩ : ByteArray), .int .i64 0, .int .i64 0]) ?_ 1 _ rfl; (with_reducible repeat (first | refine blk_drewN ?_ _ | refine blk_drew ?_ | refine blk_alloc ?_ _)); refine blk_put (cs := #[.int .i64 0, .string (⟨#[]⟩ : ByteArray), .int .i64 0, .int .i64 0]) ?_ 0 _ rfl; (with_reducible repeat (first | refine blk_drewN ?_ _ | refine blk_drew ?_ | refine blk_alloc ?_ _)); exact BK212.out) Tryd.underlying46 rfl (by kernel_rfl)) rfl ?_
                                    exact ⟨by first | rfl | (simp [errW_none, errW_some] <;> rfl) | (simp only [← hji33]; first | rfl | (simp [errW_none, errW_some] <;> rfl)) | (simp [*, errW_none, errW_some] <;> rfl), bl1_ HB.out GE212.out⟩
                                  · rw [if_neg c38] at H
                                    have c38b0 : (t214 == 0) = false := beq_eq_false_iff_ne.mpr c38
                                    have c38b1 : (t214 != 0) = true := bne_iff_ne.mpr c38
                                    simp only [Option.some.injEq, Prod.mk.injEq] at H
                                    obtain ⟨rfl, rfl, rfl, rfl, rfl, rfl⟩ := H
                                    go_wp2_with (first | ((with_reducible refine gate_callee (f := 94) rfl ?_); refine goesL_ (some 77) rfl rfl Tryd.func94 (by kernel_rfl) rfl #[.string (a0.extract ((ji33) : Int).toNat (x7_18 : Int).toNat)] rfl (by (try simp only [List.map_toArray, List.map_cons, List.map_nil]); first | done | (simp only [hji33]; rfl) | rfl | (simp only [List.length_drop, List.length_take]; rfl)) ?_; (with_reducible refine (salchowref09_Title.calls kj25 (a0.extract ((ji33) : Int).toNat (x7_18 : Int).toNat) t214 _ A37.out).mono ?_); rintro e w' ⟨rfl, ⟨nd, rfl⟩⟩; refine ⟨_, rfl, ?_⟩; (try (rw [drewN_self wc]; generalize hq_ : World.drewN wc _ = wc; have n0_ : Aside0 (wc.heap[gb212]? = some (.cells #[.int .i64 0, .string (⟨#[]⟩ : ByteArray), .int .i64 0, .int .i64 0] 46 (0, 0))) := ⟨by rw [← hq_]; exact (bk_ BK212.out)⟩; have n1_ : Aside0 (Below w.heap.size w wc) := ⟨by rw [← hq_]; exact (bl1_ HB.out GE212.out)⟩; clear BK212 HB hq_; have BK212 := n0_; have HB := n1_; clear n0_ n1_)); have hcz43_0 : wc.cell? ⟨gb212, 0, none⟩ = some (.int .i64 0) := (blk_cell BK212.out 0).trans rfl; have hcz43_1 : wc.cell? ⟨gb212, 1, none⟩ = some (.string (⟨#[]⟩ : ByteArray)) := (blk_cell BK212.out 1).trans rfl; have hcz43_2 : wc.cell? ⟨gb212, 2, none⟩ = some (.int .i64 0) := (blk_cell BK212.out 2).trans rfl; have hcz43_3 : wc.cell? ⟨gb212, 3, none⟩ = some (.int .i64 0) := (blk_cell BK212.out 3).trans rfl; have hfz43_0 := blk_frozen BK212.out 0; have hfz43_1 := blk_frozen BK212.out 1; have hfz43_2 := blk_frozen BK212.out 2; have hfz43_3 := blk_frozen BK212.out 3))
                                    refine bodyPost_ret (results_ctt rfl _ _ gb212 46 #[.int .i64 0, .string (⟨#[]⟩ : ByteArray), .int .i64 0, .int .i64 0] (0, 0) _ rfl (by (with_reducible repeat (first | refine blk_drewN ?_ _ | refine blk_drew ?_ | refine blk_alloc ?_ _)); refine blk_put (cs := #[.int .i64 0, .string (⟨#[]⟩ : ByteArray), .int .i64 0, .int .i64 0]) ?_ 3 _ rfl; (with_reducible repeat (first | refine blk_drewN ?_ _ | refine blk_drew ?_ | refine blk_alloc ?_ _)); refine blk_put (cs := #[.int .i64 0, .string (⟨#[]⟩ : ByteArray), .int .i64 0, .int .i64 0]) ?_ 2 _ rfl; (with_reducible repeat (first | refine blk_drewN ?_ _ | refine blk_drew ?_ | refine blk_alloc ?_ _)); refine blk_put (cs := #[.int .i64 0, .string (⟨#[]⟩ : ByteArray), .int .i64 0, .int .i64 0]) ?_ 1 _ rfl; (with_reducible repeat (first | refine blk_drewN ?_ _ | refine blk_drew ?_ | refine blk_alloc ?_ _)); refine blk_put (cs := #[.int .i64 0, .string (⟨#[]⟩ : ByteArray), .int .i64 0, .int .i64 0]) ?_ 0 _ rfl; (with_reducible repeat (first | refine blk_drewN ?_ _ | refine blk_drew ?_ | refine blk_alloc ?_ _)); exact BK212.out) Tryd.underlying46 rfl (by kernel_rfl)) rfl ?_
                                    exact ⟨by first | rfl | (simp [errW_none, errW_some] <;> rfl) | (simp only [← hji33]; first | rfl | (simp [errW_none, errW_some] <;> rfl)) | (simp [*, errW_none, errW_some] <;> rfl), bl1_ HB.out GE212.out⟩
                                · rw [if_neg c36] at H
                                  exact absurd H (by simp)
                              · rw [if_neg c35] at H
                                exact absurd H (by simp)
                            · rw [if_neg c34] at H
                              exact absurd H (by simp)
                · rw [if_neg c18] at H
                  have c18b0 : ((bt a0 a1) == 34) = false := beq_eq_false_iff_ne.mpr c18
                  have c18b1 : ((bt a0 a1) != 34) = true := bne_iff_ne.mpr c18
                  replace H := Option.bind_eq_some_iff.mp H
                  obtain ⟨t215, A450, H⟩ := H
                  replace H : (if t215 = true then (if a1 ≤ (wrap64 (a1 + 1)) then (if (wrap64 (a1 + 1)) ≤ (a0.size : Int) then (some (4, a0.extract (a1 : Int).toNat ((wrap64 (a1 + 1)) : Int).toNat, 0, a1, wrap64 (a1 + 1), 0)) else (none)) else (none)) else (if (a0.extract (a1 : Int).toNat (x7_5 : Int).toNat).toList = ([] : List UInt8) then (some (0, (⟨#[]⟩ : ByteArray), 0, 0, 0, 2)) else ((salchowref09_has.f kj5 (a0.extract (a1 : Int).toNat (x7_5 : Int).toNat) true false).bind fun t216 => (if t216 = true then ((salchowref09_has.f kj5 (a0.extract (a1 : Int).toNat (x7_5 : Int).toNat) false true).bind fun t217 => (if t217 = true then (some (0, (⟨#[]⟩ : ByteArray), 0, 0, 0, 2)) else (if ((a0.extract (a1 : Int).toNat (x7_5 : Int).toNat).size : Int) > 32 then (some (0, (⟨#[]⟩ : ByteArray), 0, 0, 0, 6)) else (some (1, a0.extract (a1 : Int).toNat (x7_5 : Int).toNat, 0, a1, x7_5, 0))))) else ((salchowref09_number.f kj5 (a0.extract (a1 : Int).toNat (x7_5 : Int).toNat)).bind fun bt218 => (if bt218.2 = 0 then (some (2, (⟨#[]⟩ : ByteArray), bt218.1, a1, x7_5, 0)) else (some (0, (⟨#[]⟩ : ByteArray), 0, 0, 0, bt218.2)))))))) = some (r1, r2, r3, r4, r5, r6) := H
                  have A45 := Aside0.mk A450
                  clear A450
                  by_cases c46 : t215 = true
                  · subst c46
                    have H1 : (if a1 ≤ (wrap64 (a1 + 1)) then (if (wrap64 (a1 + 1)) ≤ (a0.size : Int) then (some (4, a0.extract (a1 : Int).toNat ((wrap64 (a1 + 1)) : Int).toNat, 0, a1, wrap64 (a1 + 1), 0)) else (none)) else (none)) = some (r1, r2, r3, r4, r5, r6) := by rw [if_pos rfl] at H; exact H
                    clear H
                    have H := H1
                    clear H1
                    have c47b0 := eq_true (of_decide_eq_true (by first | (with_reducible assumption) | assumption) : 0 ≤ a1)
                    by_cases c48 : a1 ≤ (wrap64 (a1 + 1))
                    · rw [if_pos c48] at H
                      have c48b0 := eq_true c48
                      have c48b1 : decide (a1 ≤ (wrap64 (a1 + 1))) = true := decide_eq_true c48
                      by_cases c49 : (wrap64 (a1 + 1)) ≤ (a0.size : Int)
                      · rw [if_pos c49] at H
                        have c49b0 := eq_true c49
                        have c49b1 : decide ((wrap64 (a1 + 1)) ≤ (a0.size : Int)) = true := decide_eq_true c49
                        simp only [Option.some.injEq, Prod.mk.injEq] at H
                        obtain ⟨rfl, rfl, rfl, rfl, rfl, rfl⟩ := H
                        have p17 : 0 ≤ (a1 : Int) := of_decide_eq_true (by first | (with_reducible assumption) | assumption)
                        have q17 : a1 < (a0.size : Int) := of_decide_eq_true (by first | (with_reducible assumption) | assumption)
                        have hx17 := bt_at a0 a1
                        replace p17 := eq_true p17
                        replace q17 := eq_true q17
                        have p44 : 0 ≤ (a1 : Int) := of_decide_eq_true (by first | (with_reducible assumption) | assumption)
                        have q44 : a1 < (a0.size : Int) := of_decide_eq_true (by first | (with_reducible assumption) | assumption)
                        have hx44 := bt_at a0 a1
                        replace p44 := eq_true p44
                        replace q44 := eq_true q44
                        go_wp2_with (first | ((with_reducible refine gate_callee (f := 95) rfl ?_); refine goesL_ (some 95) rfl rfl Tryd.func95 (by kernel_rfl) rfl #[.int .u8 (bt a0 a1)] rfl (by (try simp only [List.map_toArray, List.map_cons, List.map_nil]); first | done | rfl | (simp only [List.length_drop, List.length_take]; rfl)) ?_; (with_reducible refine (salchowref09_sign.calls kj5 (bt a0 a1) true _ A45.out).mono ?_); rintro e w' ⟨rfl, ⟨nd, rfl⟩⟩; refine ⟨_, rfl, ?_⟩; (try (rw [drewN_self wc]; generalize hq_ : World.drewN wc _ = wc; have n0_ : Aside0 (wc.heap[gb212]? = some (.cells #[.int .i64 0, .string (⟨#[]⟩ : ByteArray), .int .i64 0, .int .i64 0] 46 (0, 0))) := ⟨by rw [← hq_]; exact (bk_ BK212.out)⟩; have n1_ : Aside0 (Below w.heap.size w wc) := ⟨by rw [← hq_]; exact (bl1_ HB.out GE212.out)⟩; clear BK212 HB hq_; have BK212 := n0_; have HB := n1_; clear n0_ n1_)); have hcz50_0 : wc.cell? ⟨gb212, 0, none⟩ = some (.int .i64 0) := (blk_cell BK212.out 0).trans rfl; have hcz50_1 : wc.cell? ⟨gb212, 1, none⟩ = some (.string (⟨#[]⟩ : ByteArray)) := (blk_cell BK212.out 1).trans rfl; have hcz50_2 : wc.cell? ⟨gb212, 2, none⟩ = some (.int .i64 0) := (blk_cell BK212.out 2).trans rfl; have hcz50_3 : wc.cell? ⟨gb212, 3, none⟩ = some (.int .i64 0) := (blk_cell BK212.out 3).trans rfl; have hfz50_0 := blk_frozen BK212.out 0; have hfz50_1 := blk_frozen BK212.out 1; have hfz50_2 := blk_frozen BK212.out 2; have hfz50_3 := blk_frozen BK212.out 3))
                        refine bodyPost_ret (results_ctt rfl _ _ gb212 46 #[.int .i64 4, .string (a0.extract (a1 : Int).toNat ((wrap64 (a1 + 1)) : Int).toNat), .int .i64 0, .int .i64 a1] (0, 0) _ rfl (by (with_reducible repeat (first | refine blk_drewN ?_ _ | refine blk_drew ?_ | refine blk_alloc ?_ _)); refine blk_put (cs := #[.int .i64 4, .string (a0.extract (a1 : Int).toNat ((wrap64 (a1 + 1)) : Int).toNat), .int .i64 0, .int .i64 0]) ?_ 3 _ rfl; (with_reducible repeat (first | refine blk_drewN ?_ _ | refine blk_drew ?_ | refine blk_alloc ?_ _)); refine blk_put (cs := #[.int .i64 4, .string (a0.extract (a1 : Int).toNat ((wrap64 (a1 + 1)) : Int).toNat), .int .i64 0, .int .i64 0]) ?_ 2 _ rfl; (with_reducible repeat (first | refine blk_drewN ?_ _ | refine blk_drew ?_ | refine blk_alloc ?_ _)); refine blk_put (cs := #[.int .i64 4, .string (⟨#[]⟩ : ByteArray), .int .i64 0, .int .i64 0]) ?_ 1 _ rfl; (with_reducible repeat (first | refine blk_drewN ?_ _ | refine blk_drew ?_ | refine blk_alloc ?_ _)); refine blk_put (cs := #[.int .i64 0, .string (⟨#[]⟩ : ByteArray), .int .i64 0, .int .i64 0]) ?_ 0 _ rfl; (with_reducible repeat (first | refine blk_drewN ?_ _ | refine blk_drew ?_ | refine blk_alloc ?_ _)); exact BK212.out) Tryd.underlying46 rfl (by kernel_rfl)) rfl ?_
                        exact ⟨er_, bl1_ HB.out GE212.out⟩
                      · rw [if_neg c49] at H
                        exact absurd H (by simp)
                    · rw [if_neg c48] at H
                      exact absurd H (by simp)
                  · replace c46 := Bool.eq_false_iff.mpr c46
                    subst c46
                    have H1 : (if (a0.extract (a1 : Int).toNat (x7_5 : Int).toNat).toList = ([] : List UInt8) then (some (0, (⟨#[]⟩ : ByteArray), 0, 0, 0, 2)) else ((salchowref09_has.f kj5 (a0.extract (a1 : Int).toNat (x7_5 : Int).toNat) true false).bind fun t216 => (if t216 = true then ((salchowref09_has.f kj5 (a0.extract (a1 : Int).toNat (x7_5 : Int).toNat) false true).bind fun t217 => (if t217 = true then (some (0, (⟨#[]⟩ : ByteArray), 0, 0, 0, 2)) else (if ((a0.extract (a1 : Int).toNat (x7_5 : Int).toNat).size : Int) > 32 then (some (0, (⟨#[]⟩ : ByteArray), 0, 0, 0, 6)) else (some (1, a0.extract (a1 : Int).toNat (x7_5 : Int).toNat, 0, a1, x7_5, 0))))) else ((salchowref09_number.f kj5 (a0.extract (a1 : Int).toNat (x7_5 : Int).toNat)).bind fun bt218 => (if bt218.2 = 0 then (some (2, (⟨#[]⟩ : ByteArray), bt218.1, a1, x7_5, 0)) else (some (0, (⟨#[]⟩ : ByteArray), 0, 0, 0, bt218.2))))))) = some (r1, r2, r3, r4, r5, r6) := by rw [if_neg (show ¬ (false = true) by decide)] at H; exact H
                    clear H
                    have H := H1
                    clear H1
                    by_cases c51 : (a0.extract (a1 : Int).toNat (x7_5 : Int).toNat).toList = ([] : List UInt8)
                    · rw [if_pos c51] at H
                      have c51b0 : ((a0.extract (a1 : Int).toNat (x7_5 : Int).toNat).toList == ([] : List UInt8)) = true := beq_iff_eq.mpr c51
                      have c51b1 : ((a0.extract (a1 : Int).toNat (x7_5 : Int).toNat).toList != ([] : List UInt8)) = false := bne_eq_false_iff_eq.mpr c51
                      (try (have c51e0 := c51b0; simp only [ByteArray.size_extract, Nat.min_self, Nat.sub_zero] at c51e0))
                      (try (have c51e1 := c51b1; simp only [ByteArray.size_extract, Nat.min_self, Nat.sub_zero] at c51e1))
                      clear c51
                      simp only [Option.some.injEq, Prod.mk.injEq] at H
                      obtain ⟨rfl, rfl, rfl, rfl, rfl, rfl⟩ := H
                      have p17 : 0 ≤ (a1 : Int) := of_decide_eq_true (by first | (with_reducible assumption) | assumption)
                      have q17 : a1 < (a0.size : Int) := of_decide_eq_true (by first | (with_reducible assumption) | assumption)
                      have hx17 := bt_at a0 a1
                      replace p17 := eq_true p17
                      replace q17 := eq_true q17
                      have p44 : 0 ≤ (a1 : Int) := of_decide_eq_true (by first | (with_reducible assumption) | assumption)
                      have q44 : a1 < (a0.size : Int) := of_decide_eq_true (by first | (with_reducible assumption) | assumption)
                      have hx44 := bt_at a0 a1
                      replace p44 := eq_true p44
                      replace q44 := eq_true q44
                      go_wp2_with (first | ((with_reducible refine gate_callee (f := 95) rfl ?_); refine goesL_ (some 95) rfl rfl Tryd.func95 (by kernel_rfl) rfl #[.int .u8 (bt a0 a1)] rfl (by (try simp only [List.map_toArray, List.map_cons, List.map_nil]); first | done | rfl | (simp only [List.length_drop, List.length_take]; rfl)) ?_; (with_reducible refine (salchowref09_sign.calls kj5 (bt a0 a1) false _ A45.out).mono ?_); rintro e w' ⟨rfl, ⟨nd, rfl⟩⟩; refine ⟨_, rfl, ?_⟩; (try (rw [drewN_self wc]; generalize hq_ : World.drewN wc _ = wc; have n0_ : Aside0 (wc.heap[gb212]? = some (.cells #[.int .i64 0, .string (⟨#[]⟩ : ByteArray), .int .i64 0, .int .i64 0] 46 (0, 0))) := ⟨by rw [← hq_]; exact (bk_ BK212.out)⟩; have n1_ : Aside0 (Below w.heap.size w wc) := ⟨by rw [← hq_]; exact (bl1_ HB.out GE212.out)⟩; clear BK212 HB hq_; have BK212 := n0_; have HB := n1_; clear n0_ n1_)); have hcz52_0 : wc.cell? ⟨gb212, 0, none⟩ = some (.int .i64 0) := (blk_cell BK212.out 0).trans rfl; have hcz52_1 : wc.cell? ⟨gb212, 1, none⟩ = some (.string (⟨#[]⟩ : ByteArray)) := (blk_cell BK212.out 1).trans rfl; have hcz52_2 : wc.cell? ⟨gb212, 2, none⟩ = some (.int .i64 0) := (blk_cell BK212.out 2).trans rfl; have hcz52_3 : wc.cell? ⟨gb212, 3, none⟩ = some (.int .i64 0) := (blk_cell BK212.out 3).trans rfl; have hfz52_0 := blk_frozen BK212.out 0; have hfz52_1 := blk_frozen BK212.out 1; have hfz52_2 := blk_frozen BK212.out 2; have hfz52_3 := blk_frozen BK212.out 3))
                      refine bodyPost_ret (results_ctt rfl _ _ gb212 46 #[.int .i64 0, .string (⟨#[]⟩ : ByteArray), .int .i64 0, .int .i64 0] (0, 0) _ rfl (by (with_reducible repeat (first | refine blk_drewN ?_ _ | refine blk_drew ?_ | refine blk_alloc ?_ _)); refine blk_put (cs := #[.int .i64 0, .string (⟨#[]⟩ : ByteArray), .int .i64 0, .int .i64 0]) ?_ 3 _ rfl; (with_reducible repeat (first | refine blk_drewN ?_ _ | refine blk_drew ?_ | refine blk_alloc ?_ _)); refine blk_put (cs := #[.int .i64 0, .string (⟨#[]⟩ : ByteArray), .int .i64 0, .int .i64 0]) ?_ 2 _ rfl; (with_reducible repeat (first | refine blk_drewN ?_ _ | refine blk_drew ?_ | refine blk_alloc ?_ _)); refine blk_put (cs := #[.int .i64 0, .string (⟨#[]⟩ : ByteArray), .int .i64 0, .int .i64 0]) ?_ 1 _ rfl; (with_reducible repeat (first | refine blk_drewN ?_ _ | refine blk_drew ?_ | refine blk_alloc ?_ _)); refine blk_put (cs := #[.int .i64 0, .string (⟨#[]⟩ : ByteArray), .int .i64 0, .int .i64 0]) ?_ 0 _ rfl; (with_reducible repeat (first | refine blk_drewN ?_ _ | refine blk_drew ?_ | refine blk_alloc ?_ _)); exact BK212.out) Tryd.underlying46 rfl (by kernel_rfl)) rfl ?_
                      exact ⟨er_, bl1_ HB.out GE212.out⟩
                    · rw [if_neg c51] at H
                      have c51b0 : ((a0.extract (a1 : Int).toNat (x7_5 : Int).toNat).toList == ([] : List UInt8)) = false := beq_eq_false_iff_ne.mpr c51
                      have c51b1 : ((a0.extract (a1 : Int).toNat (x7_5 : Int).toNat).toList != ([] : List UInt8)) = true := bne_iff_ne.mpr c51
                      (try (have c51e0 := c51b0; simp only [ByteArray.size_extract, Nat.min_self, Nat.sub_zero] at c51e0))
                      (try (have c51e1 := c51b1; simp only [ByteArray.size_extract, Nat.min_self, Nat.sub_zero] at c51e1))
                      replace H := Option.bind_eq_some_iff.mp H
                      obtain ⟨t216, A530, H⟩ := H
                      replace H : (if t216 = true then ((salchowref09_has.f kj5 (a0.extract (a1 : Int).toNat (x7_5 : Int).toNat) false true).bind fun t217 => (if t217 = true then (some (0, (⟨#[]⟩ : ByteArray), 0, 0, 0, 2)) else (if ((a0.extract (a1 : Int).toNat (x7_5 : Int).toNat).size : Int) > 32 then (some (0, (⟨#[]⟩ : ByteArray), 0, 0, 0, 6)) else (some (1, a0.extract (a1 : Int).toNat (x7_5 : Int).toNat, 0, a1, x7_5, 0))))) else ((salchowref09_number.f kj5 (a0.extract (a1 : Int).toNat (x7_5 : Int).toNat)).bind fun bt218 => (if bt218.2 = 0 then (some (2, (⟨#[]⟩ : ByteArray), bt218.1, a1, x7_5, 0)) else (some (0, (⟨#[]⟩ : ByteArray), 0, 0, 0, bt218.2))))) = some (r1, r2, r3, r4, r5, r6) := H
                      have A53 := Aside0.mk A530
                      clear A530
                      by_cases c54 : t216 = true
                      · subst c54
                        have H1 : ((salchowref09_has.f kj5 (a0.extract (a1 : Int).toNat (x7_5 : Int).toNat) false true).bind fun t217 => (if t217 = true then (some (0, (⟨#[]⟩ : ByteArray), 0, 0, 0, 2)) else (if ((a0.extract (a1 : Int).toNat (x7_5 : Int).toNat).size : Int) > 32 then (some (0, (⟨#[]⟩ : ByteArray), 0, 0, 0, 6)) else (some (1, a0.extract (a1 : Int).toNat (x7_5 : Int).toNat, 0, a1, x7_5, 0))))) = some (r1, r2, r3, r4, r5, r6) := by rw [if_pos rfl] at H; exact H
                        clear H
                        have H := H1
                        clear H1
                        replace H := Option.bind_eq_some_iff.mp H
                        obtain ⟨t217, A550, H⟩ := H
                        replace H : (if t217 = true then (some (0, (⟨#[]⟩ : ByteArray), 0, 0, 0, 2)) else (if ((a0.extract (a1 : Int).toNat (x7_5 : Int).toNat).size : Int) > 32 then (some (0, (⟨#[]⟩ : ByteArray), 0, 0, 0, 6)) else (some (1, a0.extract (a1 : Int).toNat (x7_5 : Int).toNat, 0, a1, x7_5, 0)))) = some (r1, r2, r3, r4, r5, r6) := H
                        have A55 := Aside0.mk A550
                        clear A550
                        by_cases c56 : t217 = true
                        · subst c56
                          have H1 : (some (0, (⟨#[]⟩ : ByteArray), 0, 0, 0, 2)) = some (r1, r2, r3, r4, r5, r6) := by rw [if_pos rfl] at H; exact H
                          clear H
                          have H := H1
                          clear H1
                          simp only [Option.some.injEq, Prod.mk.injEq] at H
                          obtain ⟨rfl, rfl, rfl, rfl, rfl, rfl⟩ := H
                          have p17 : 0 ≤ (a1 : Int) := of_decide_eq_true (by first | (with_reducible assumption) | assumption)
                          have q17 : a1 < (a0.size : Int) := of_decide_eq_true (by first | (with_reducible assumption) | assumption)
                          have hx17 := bt_at a0 a1
                          replace p17 := eq_true p17
                          replace q17 := eq_true q17
                          have p44 : 0 ≤ (a1 : Int) := of_decide_eq_true (by first | (with_reducible assumption) | assumption)
                          have q44 : a1 < (a0.size : Int) := of_decide_eq_true (by first | (with_reducible assumption) | assumption)
                          have hx44 := bt_at a0 a1
                          replace p44 := eq_true p44
                          replace q44 := eq_true q44
                          go_wp2_with (first | ((with_reducible refine gate_callee (f := 95) rfl ?_); refine goesL_ (some 95) rfl rfl Tryd.func95 (by kernel_rfl) rfl #[.int .u8 (bt a0 a1)] rfl (by (try simp only [List.map_toArray, List.map_cons, List.map_nil]); first | done | rfl | (simp only [List.length_drop, List.length_take]; rfl)) ?_; (with_reducible refine (salchowref09_sign.calls kj5 (bt a0 a1) false _ A45.out).mono ?_); rintro e w' ⟨rfl, ⟨nd, rfl⟩⟩; refine ⟨_, rfl, ?_⟩; (try (rw [drewN_self wc]; generalize hq_ : World.drewN wc _ = wc; have n0_ : Aside0 (wc.heap[gb212]? = some (.cells #[.int .i64 0, .string (⟨#[]⟩ : ByteArray), .int .i64 0, .int .i64 0] 46 (0, 0))) := ⟨by rw [← hq_]; exact (bk_ BK212.out)⟩; have n1_ : Aside0 (Below w.heap.size w wc) := ⟨by rw [← hq_]; exact (bl1_ HB.out GE212.out)⟩; clear BK212 HB hq_; have BK212 := n0_; have HB := n1_; clear n0_ n1_))) | ((with_reducible refine gate_callee (f := 96) rfl ?_); refine goesL_ (some 111) rfl rfl Tryd.func96 (by kernel_rfl) rfl #[.string (a0.extract (a1 : Int).toNat (x7_5 : Int).toNat), .bool true, .bool false] rfl (by (try simp only [List.map_toArray, List.map_cons, List.map_nil]); first | done | rfl | (simp only [List.length_drop, List.length_take]; rfl)) ?_; (with_reducible refine (salchowref09_has.calls kj5 (a0.extract (a1 : Int).toNat (x7_5 : Int).toNat) true false true _ A53.out).mono ?_); rintro e w' ⟨rfl, ⟨nd, rfl⟩⟩; refine ⟨_, rfl, ?_⟩; (try (rw [drewN_self wc]; generalize hq_ : World.drewN wc _ = wc; have n0_ : Aside0 (wc.heap[gb212]? = some (.cells #[.int .i64 0, .string (⟨#[]⟩ : ByteArray), .int .i64 0, .int .i64 0] 46 (0, 0))) := ⟨by rw [← hq_]; exact (bk_ BK212.out)⟩; have n1_ : Aside0 (Below w.heap.size w wc) := ⟨by rw [← hq_]; exact (bl1_ HB.out GE212.out)⟩; clear BK212 HB hq_; have BK212 := n0_; have HB := n1_; clear n0_ n1_))) | ((with_reducible refine gate_callee (f := 96) rfl ?_); refine goesL_ (some 113) rfl rfl Tryd.func96 (by kernel_rfl) rfl #[.string (a0.extract (a1 : Int).toNat (x7_5 : Int).toNat), .bool false, .bool true] rfl (by (try simp only [List.map_toArray, List.map_cons, List.map_nil]); first | done | rfl | (simp only [List.length_drop, List.length_take]; rfl)) ?_; (with_reducible refine (salchowref09_has.calls kj5 (a0.extract (a1 : Int).toNat (x7_5 : Int).toNat) false true true _ A55.out).mono ?_); rintro e w' ⟨rfl, ⟨nd, rfl⟩⟩; refine ⟨_, rfl, ?_⟩; (try (rw [drewN_self wc]; generalize hq_ : World.drewN wc _ = wc; have n0_ : Aside0 (wc.heap[gb212]? = some (.cells #[.int .i64 0, .string (⟨#[]⟩ : ByteArray), .int .i64 0, .int .i64 0] 46 (0, 0))) := ⟨by rw [← hq_]; exact (bk_ BK212.out)⟩; have n1_ : Aside0 (Below w.heap.size w wc) := ⟨by rw [← hq_]; exact (bl1_ HB.out GE212.out)⟩; clear BK212 HB hq_; have BK212 := n0_; have HB := n1_; clear n0_ n1_)); have hcz57_0 : wc.cell? ⟨gb212, 0, none⟩ = some (.int .i64 0) := (blk_cell BK212.out 0).trans rfl; have hcz57_1 : wc.cell? ⟨gb212, 1, none⟩ = some (.string (⟨#[]⟩ : ByteArray)) := (blk_cell BK212.out 1).trans rfl; have hcz57_2 : wc.cell? ⟨gb212, 2, none⟩ = some (.int .i64 0) := (blk_cell BK212.out 2).trans rfl; have hcz57_3 : wc.cell? ⟨gb212, 3, none⟩ = some (.int .i64 0) := (blk_cell BK212.out 3).trans rfl; have hfz57_0 := blk_frozen BK212.out 0; have hfz57_1 := blk_frozen BK212.out 1; have hfz57_2 := blk_frozen BK212.out 2; have hfz57_3 := blk_frozen BK212.out 3))
                          refine bodyPost_ret (results_ctt rfl _ _ gb212 46 #[.int .i64 0, .string (⟨#[]⟩ : ByteArray), .int .i64 0, .int .i64 0] (0, 0) _ rfl (by (with_reducible repeat (first | refine blk_drewN ?_ _ | refine blk_drew ?_ | refine blk_alloc ?_ _)); refine blk_put (cs := #[.int .i64 0, .string (⟨#[]⟩ : ByteArray), .int .i64 0, .int .i64 0]) ?_ 3 _ rfl; (with_reducible repeat (first | refine blk_drewN ?_ _ | refine blk_drew ?_ | refine blk_alloc ?_ _)); refine blk_put (cs := #[.int .i64 0, .string (⟨#[]⟩ : ByteArray), .int .i64 0, .int .i64 0]) ?_ 2 _ rfl; (with_reducible repeat (first | refine blk_drewN ?_ _ | refine blk_drew ?_ | refine blk_alloc ?_ _)); refine blk_put (cs := #[.int .i64 0, .string (⟨#[]⟩ : ByteArray), .int .i64 0, .int .i64 0]) ?_ 1 _ rfl; (with_reducible repeat (first | refine blk_drewN ?_ _ | refine blk_drew ?_ | refine blk_alloc ?_ _)); refine blk_put (cs := #[.int .i64 0, .string (⟨#[]⟩ : ByteArray), .int .i64 0, .int .i64 0]) ?_ 0 _ rfl; (with_reducible repeat (first | refine blk_drewN ?_ _ | refine blk_drew ?_ | refine blk_alloc ?_ _)); exact BK212.out) Tryd.underlying46 rfl (by kernel_rfl)) rfl ?_
                          exact ⟨er_, bl1_ HB.out GE212.out⟩
                        · replace c56 := Bool.eq_false_iff.mpr c56
                          subst c56
                          have H1 : (if ((a0.extract (a1 : Int).toNat (x7_5 : Int).toNat).size : Int) > 32 then (some (0, (⟨#[]⟩ : ByteArray), 0, 0, 0, 6)) else (some (1, a0.extract (a1 : Int).toNat (x7_5 : Int).toNat, 0, a1, x7_5, 0))) = some (r1, r2, r3, r4, r5, r6) := by rw [if_neg (show ¬ (false = true) by decide)] at H; exact H
                          clear H
                          have H := H1
                          clear H1
                          by_cases c58 : ((a0.extract (a1 : Int).toNat (x7_5 : Int).toNat).size : Int) > 32
                          · rw [if_pos c58] at H
                            have c58b0 : decide (32 < ((a0.extract (a1 : Int).toNat (x7_5 : Int).toNat).size : Int)) = true := decide_eq_true c58
                            have c58b1 : decide (32 < (a0.extract (a1 : Int).toNat (x7_5 : Int).toNat).size) = true := decide_eq_true (by omega)
                            (try (have c58e0 := c58b0; simp only [ByteArray.size_extract, Nat.min_self, Nat.sub_zero] at c58e0))
                            (try (have c58e1 := c58b1; simp only [ByteArray.size_extract, Nat.min_self, Nat.sub_zero] at c58e1))
                            (try (have c58g0 := c58b0; simp only [ByteArray.size_extract, Nat.sub_zero, Nat.min_eq_left (show (x7_5 : Int).toNat ≤ a0.size from by have h_ : (x7_5 : Int) ≤ (a0.size : Int) := of_decide_eq_true (by first | (with_reducible assumption) | assumption); omega)] at c58g0))
                            (try (have c58g1 := c58b1; simp only [ByteArray.size_extract, Nat.sub_zero, Nat.min_eq_left (show (x7_5 : Int).toNat ≤ a0.size from by have h_ : (x7_5 : Int) ≤ (a0.size : Int) := of_decide_eq_true (by first | (with_reducible assumption) | assumption); omega)] at c58g1))
                            clear c58
                            simp only [Option.some.injEq, Prod.mk.injEq] at H
                            obtain ⟨rfl, rfl, rfl, rfl, rfl, rfl⟩ := H
                            have p17 : 0 ≤ (a1 : Int) := of_decide_eq_true (by first | (with_reducible assumption) | assumption)
                            have q17 : a1 < (a0.size : Int) := of_decide_eq_true (by first | (with_reducible assumption) | assumption)
                            have hx17 := bt_at a0 a1
                            replace p17 := eq_true p17
                            replace q17 := eq_true q17
                            have p44 : 0 ≤ (a1 : Int) := of_decide_eq_true (by first | (with_reducible assumption) | assumption)
                            have q44 : a1 < (a0.size : Int) := of_decide_eq_true (by first | (with_reducible assumption) | assumption)
                            have hx44 := bt_at a0 a1
                            replace p44 := eq_true p44
                            replace q44 := eq_true q44
                            go_wp2_with (first | ((with_reducible refine gate_callee (f := 95) rfl ?_); refine goesL_ (some 95) rfl rfl Tryd.func95 (by kernel_rfl) rfl #[.int .u8 (bt a0 a1)] rfl (by (try simp only [List.map_toArray, List.map_cons, List.map_nil]); first | done | rfl | (simp only [List.length_drop, List.length_take]; rfl)) ?_; (with_reducible refine (salchowref09_sign.calls kj5 (bt a0 a1) false _ A45.out).mono ?_); rintro e w' ⟨rfl, ⟨nd, rfl⟩⟩; refine ⟨_, rfl, ?_⟩; (try (rw [drewN_self wc]; generalize hq_ : World.drewN wc _ = wc; have n0_ : Aside0 (wc.heap[gb212]? = some (.cells #[.int .i64 0, .string (⟨#[]⟩ : ByteArray), .int .i64 0, .int .i64 0] 46 (0, 0))) := ⟨by rw [← hq_]; exact (bk_ BK212.out)⟩; have n1_ : Aside0 (Below w.heap.size w wc) := ⟨by rw [← hq_]; exact (bl1_ HB.out GE212.out)⟩; clear BK212 HB hq_; have BK212 := n0_; have HB := n1_; clear n0_ n1_))) | ((with_reducible refine gate_callee (f := 96) rfl ?_); refine goesL_ (some 111) rfl rfl Tryd.func96 (by kernel_rfl) rfl #[.string (a0.extract (a1 : Int).toNat (x7_5 : Int).toNat), .bool true, .bool false] rfl (by (try simp only [List.map_toArray, List.map_cons, List.map_nil]); first | done | rfl | (simp only [List.length_drop, List.length_take]; rfl)) ?_; (with_reducible refine (salchowref09_has.calls kj5 (a0.extract (a1 : Int).toNat (x7_5 : Int).toNat) true false true _ A53.out).mono ?_); rintro e w' ⟨rfl, ⟨nd, rfl⟩⟩; refine ⟨_, rfl, ?_⟩; (try (rw [drewN_self wc]; generalize hq_ : World.drewN wc _ = wc; have n0_ : Aside0 (wc.heap[gb212]? = some (.cells #[.int .i64 0, .string (⟨#[]⟩ : ByteArray), .int .i64 0, .int .i64 0] 46 (0, 0))) := ⟨by rw [← hq_]; exact (bk_ BK212.out)⟩; have n1_ : Aside0 (Below w.heap.size w wc) := ⟨by rw [← hq_]; exact (bl1_ HB.out GE212.out)⟩; clear BK212 HB hq_; have BK212 := n0_; have HB := n1_; clear n0_ n1_))) | ((with_reducible refine gate_callee (f := 96) rfl ?_); refine goesL_ (some 113) rfl rfl Tryd.func96 (by kernel_rfl) rfl #[.string (a0.extract (a1 : Int).toNat (x7_5 : Int).toNat), .bool false, .bool true] rfl (by (try simp only [List.map_toArray, List.map_cons, List.map_nil]); first | done | rfl | (simp only [List.length_drop, List.length_take]; rfl)) ?_; (with_reducible refine (salchowref09_has.calls kj5 (a0.extract (a1 : Int).toNat (x7_5 : Int).toNat) false true false _ A55.out).mono ?_); rintro e w' ⟨rfl, ⟨nd, rfl⟩⟩; refine ⟨_, rfl, ?_⟩; (try (rw [drewN_self wc]; generalize hq_ : World.drewN wc _ = wc; have n0_ : Aside0 (wc.heap[gb212]? = some (.cells #[.int .i64 0, .string (⟨#[]⟩ : ByteArray), .int .i64 0, .int .i64 0] 46 (0, 0))) := ⟨by rw [← hq_]; exact (bk_ BK212.out)⟩; have n1_ : Aside0 (Below w.heap.size w wc) := ⟨by rw [← hq_]; exact (bl1_ HB.out GE212.out)⟩; clear BK212 HB hq_; have BK212 := n0_; have HB := n1_; clear n0_ n1_)); have hcz59_0 : wc.cell? ⟨gb212, 0, none⟩ = some (.int .i64 0) := (blk_cell BK212.out 0).trans rfl; have hcz59_1 : wc.cell? ⟨gb212, 1, none⟩ = some (.string (⟨#[]⟩ : ByteArray)) := (blk_cell BK212.out 1).trans rfl; have hcz59_2 : wc.cell? ⟨gb212, 2, none⟩ = some (.int .i64 0) := (blk_cell BK212.out 2).trans rfl; have hcz59_3 : wc.cell? ⟨gb212, 3, none⟩ = some (.int .i64 0) := (blk_cell BK212.out 3).trans rfl; have hfz59_0 := blk_frozen BK212.out 0; have hfz59_1 := blk_frozen BK212.out 1; have hfz59_2 := blk_frozen BK212.out 2; have hfz59_3 := blk_frozen BK212.out 3))
                            refine bodyPost_ret (results_ctt rfl _ _ gb212 46 #[.int .i64 0, .string (⟨#[]⟩ : ByteArray), .int .i64 0, .int .i64 0] (0, 0) _ rfl (by (with_reducible repeat (first | refine blk_drewN ?_ _ | refine blk_drew ?_ | refine blk_alloc ?_ _)); refine blk_put (cs := #[.int .i64 0, .string (⟨#[]⟩ : ByteArray), .int .i64 0, .int .i64 0]) ?_ 3 _ rfl; (with_reducible repeat (first | refine blk_drewN ?_ _ | refine blk_drew ?_ | refine blk_alloc ?_ _)); refine blk_put (cs := #[.int .i64 0, .string (⟨#[]⟩ : ByteArray), .int .i64 0, .int .i64 0]) ?_ 2 _ rfl; (with_reducible repeat (first | refine blk_drewN ?_ _ | refine blk_drew ?_ | refine blk_alloc ?_ _)); refine blk_put (cs := #[.int .i64 0, .string (⟨#[]⟩ : ByteArray), .int .i64 0, .int .i64 0]) ?_ 1 _ rfl; (with_reducible repeat (first | refine blk_drewN ?_ _ | refine blk_drew ?_ | refine blk_alloc ?_ _)); refine blk_put (cs := #[.int .i64 0, .string (⟨#[]⟩ : ByteArray), .int .i64 0, .int .i64 0]) ?_ 0 _ rfl; (with_reducible repeat (first | refine blk_drewN ?_ _ | refine blk_drew ?_ | refine blk_alloc ?_ _)); exact BK212.out) Tryd.underlying46 rfl (by kernel_rfl)) rfl ?_
                            exact ⟨er_, bl1_ HB.out GE212.out⟩
                          · rw [if_neg c58] at H
                            have c58b0 : decide (32 < ((a0.extract (a1 : Int).toNat (x7_5 : Int).toNat).size : Int)) = false := decide_eq_false c58
                            have c58b1 : decide (32 < (a0.extract (a1 : Int).toNat (x7_5 : Int).toNat).size) = false := decide_eq_false (by omega)
                            (try (have c58e0 := c58b0; simp only [ByteArray.size_extract, Nat.min_self, Nat.sub_zero] at c58e0))
                            (try (have c58e1 := c58b1; simp only [ByteArray.size_extract, Nat.min_self, Nat.sub_zero] at c58e1))
                            (try (have c58g0 := c58b0; simp only [ByteArray.size_extract, Nat.sub_zero, Nat.min_eq_left (show (x7_5 : Int).toNat ≤ a0.size from by have h_ : (x7_5 : Int) ≤ (a0.size : Int) := of_decide_eq_true (by first | (with_reducible assumption) | assumption); omega)] at c58g0))
                            (try (have c58g1 := c58b1; simp only [ByteArray.size_extract, Nat.sub_zero, Nat.min_eq_left (show (x7_5 : Int).toNat ≤ a0.size from by have h_ : (x7_5 : Int) ≤ (a0.size : Int) := of_decide_eq_true (by first | (with_reducible assumption) | assumption); omega)] at c58g1))
                            clear c58
                            simp only [Option.some.injEq, Prod.mk.injEq] at H
                            obtain ⟨rfl, rfl, rfl, rfl, rfl, rfl⟩ := H
                            have p17 : 0 ≤ (a1 : Int) := of_decide_eq_true (by first | (with_reducible assumption) | assumption)
                            have q17 : a1 < (a0.size : Int) := of_decide_eq_true (by first | (with_reducible assumption) | assumption)
                            have hx17 := bt_at a0 a1
                            replace p17 := eq_true p17
                            replace q17 := eq_true q17
                            have p44 : 0 ≤ (a1 : Int) := of_decide_eq_true (by first | (with_reducible assumption) | assumption)
                            have q44 : a1 < (a0.size : Int) := of_decide_eq_true (by first | (with_reducible assumption) | assumption)
                            have hx44 := bt_at a0 a1
                            replace p44 := eq_true p44
                            replace q44 := eq_true q44
                            go_wp2_with (first | ((with_reducible refine gate_callee (f := 95) rfl ?_); refine goesL_ (some 95) rfl rfl Tryd.func95 (by kernel_rfl) rfl #[.int .u8 (bt a0 a1)] rfl (by (try simp only [List.map_toArray, List.map_cons, List.map_nil]); first | done | rfl | (simp only [List.length_drop, List.length_take]; rfl)) ?_; (with_reducible refine (salchowref09_sign.calls kj5 (bt a0 a1) false _ A45.out).mono ?_); rintro e w' ⟨rfl, ⟨nd, rfl⟩⟩; refine ⟨_, rfl, ?_⟩; (try (rw [drewN_self wc]; generalize hq_ : World.drewN wc _ = wc; have n0_ : Aside0 (wc.heap[gb212]? = some (.cells #[.int .i64 0, .string (⟨#[]⟩ : ByteArray), .int .i64 0, .int .i64 0] 46 (0, 0))) := ⟨by rw [← hq_]; exact (bk_ BK212.out)⟩; have n1_ : Aside0 (Below w.heap.size w wc) := ⟨by rw [← hq_]; exact (bl1_ HB.out GE212.out)⟩; clear BK212 HB hq_; have BK212 := n0_; have HB := n1_; clear n0_ n1_))) | ((with_reducible refine gate_callee (f := 96) rfl ?_); refine goesL_ (some 111) rfl rfl Tryd.func96 (by kernel_rfl) rfl #[.string (a0.extract (a1 : Int).toNat (x7_5 : Int).toNat), .bool true, .bool false] rfl (by (try simp only [List.map_toArray, List.map_cons, List.map_nil]); first | done | rfl | (simp only [List.length_drop, List.length_take]; rfl)) ?_; (with_reducible refine (salchowref09_has.calls kj5 (a0.extract (a1 : Int).toNat (x7_5 : Int).toNat) true false true _ A53.out).mono ?_); rintro e w' ⟨rfl, ⟨nd, rfl⟩⟩; refine ⟨_, rfl, ?_⟩; (try (rw [drewN_self wc]; generalize hq_ : World.drewN wc _ = wc; have n0_ : Aside0 (wc.heap[gb212]? = some (.cells #[.int .i64 0, .string (⟨#[]⟩ : ByteArray), .int .i64 0, .int .i64 0] 46 (0, 0))) := ⟨by rw [← hq_]; exact (bk_ BK212.out)⟩; have n1_ : Aside0 (Below w.heap.size w wc) := ⟨by rw [← hq_]; exact (bl1_ HB.out GE212.out)⟩; clear BK212 HB hq_; have BK212 := n0_; have HB := n1_; clear n0_ n1_))) | ((with_reducible refine gate_callee (f := 96) rfl ?_); refine goesL_ (some 113) rfl rfl Tryd.func96 (by kernel_rfl) rfl #[.string (a0.extract (a1 : Int).toNat (x7_5 : Int).toNat), .bool false, .bool true] rfl (by (try simp only [List.map_toArray, List.map_cons, List.map_nil]); first | done | rfl | (simp only [List.length_drop, List.length_take]; rfl)) ?_; (with_reducible refine (salchowref09_has.calls kj5 (a0.extract (a1 : Int).toNat (x7_5 : Int).toNat) false true false _ A55.out).mono ?_); rintro e w' ⟨rfl, ⟨nd, rfl⟩⟩; refine ⟨_, rfl, ?_⟩; (try (rw [drewN_self wc]; generalize hq_ : World.drewN wc _ = wc; have n0_ : Aside0 (wc.heap[gb212]? = some (.cells #[.int .i64 0, .string (⟨#[]⟩ : ByteArray), .int .i64 0, .int .i64 0] 46 (0, 0))) := ⟨by rw [← hq_]; exact (bk_ BK212.out)⟩; have n1_ : Aside0 (Below w.heap.size w wc) := ⟨by rw [← hq_]; exact (bl1_ HB.out GE212.out)⟩; clear BK212 HB hq_; have BK212 := n0_; have HB := n1_; clear n0_ n1_)); have hcz60_0 : wc.cell? ⟨gb212, 0, none⟩ = some (.int .i64 0) := (blk_cell BK212.out 0).trans rfl; have hcz60_1 : wc.cell? ⟨gb212, 1, none⟩ = some (.string (⟨#[]⟩ : ByteArray)) := (blk_cell BK212.out 1).trans rfl; have hcz60_2 : wc.cell? ⟨gb212, 2, none⟩ = some (.int .i64 0) := (blk_cell BK212.out 2).trans rfl; have hcz60_3 : wc.cell? ⟨gb212, 3, none⟩ = some (.int .i64 0) := (blk_cell BK212.out 3).trans rfl; have hfz60_0 := blk_frozen BK212.out 0; have hfz60_1 := blk_frozen BK212.out 1; have hfz60_2 := blk_frozen BK212.out 2; have hfz60_3 := blk_frozen BK212.out 3))
                            refine bodyPost_ret (results_ctt rfl _ _ gb212 46 #[.int .i64 1, .string (a0.extract (a1 : Int).toNat (x7_5 : Int).toNat), .int .i64 0, .int .i64 a1] (0, 0) _ rfl (by (with_reducible repeat (first | refine blk_drewN ?_ _ | refine blk_drew ?_ | refine blk_alloc ?_ _)); refine blk_put (cs := #[.int .i64 1, .string (a0.extract (a1 : Int).toNat (x7_5 : Int).toNat), .int .i64 0, .int .i64 0]) ?_ 3 _ rfl; (with_reducible repeat (first | refine blk_drewN ?_ _ | refine blk_drew ?_ | refine blk_alloc ?_ _)); refine blk_put (cs := #[.int .i64 1, .string (a0.extract (a1 : Int).toNat (x7_5 : Int).toNat), .int .i64 0, .int .i64 0]) ?_ 2 _ rfl; (with_reducible repeat (first | refine blk_drewN ?_ _ | refine blk_drew ?_ | refine blk_alloc ?_ _)); refine blk_put (cs := #[.int .i64 1, .string (⟨#[]⟩ : ByteArray), .int .i64 0, .int .i64 0]) ?_ 1 _ rfl; (with_reducible repeat (first | refine blk_drewN ?_ _ | refine blk_drew ?_ | refine blk_alloc ?_ _)); refine blk_put (cs := #[.int .i64 0, .string (⟨#[]⟩ : ByteArray), .int .i64 0, .int .i64 0]) ?_ 0 _ rfl; (with_reducible repeat (first | refine blk_drewN ?_ _ | refine blk_drew ?_ | refine blk_alloc ?_ _)); exact BK212.out) Tryd.underlying46 rfl (by kernel_rfl)) rfl ?_
                            exact ⟨er_, bl1_ HB.out GE212.out⟩
                      · replace c54 := Bool.eq_false_iff.mpr c54
                        subst c54
                        have H1 : ((salchowref09_number.f kj5 (a0.extract (a1 : Int).toNat (x7_5 : Int).toNat)).bind fun bt218 => (if bt218.2 = 0 then (some (2, (⟨#[]⟩ : ByteArray), bt218.1, a1, x7_5, 0)) else (some (0, (⟨#[]⟩ : ByteArray), 0, 0, 0, bt218.2)))) = some (r1, r2, r3, r4, r5, r6) := by rw [if_neg (show ¬ (false = true) by decide)] at H; exact H
                        clear H
                        have H := H1
                        clear H1
                        replace H := Option.bind_eq_some_iff.mp H
                        obtain ⟨⟨t218, t219⟩, A610, H⟩ := H
                        replace H : (if t219 = 0 then (some (2, (⟨#[]⟩ : ByteArray), t218, a1, x7_5, 0)) else (some (0, (⟨#[]⟩ : ByteArray), 0, 0, 0, t219))) = some (r1, r2, r3, r4, r5, r6) := H
                        have A61 := Aside0.mk A610
                        clear A610
                        by_cases c62 : t219 = 0
                        · rw [if_pos c62] at H
                          have c62b0 : (t219 == 0) = true := beq_iff_eq.mpr c62
                          have c62b1 : (t219 != 0) = false := bne_eq_false_iff_eq.mpr c62
                          clear c62
                          simp only [Option.some.injEq, Prod.mk.injEq] at H
                          obtain ⟨rfl, rfl, rfl, rfl, rfl, rfl⟩ := H
                          have p17 : 0 ≤ (a1 : Int) := of_decide_eq_true (by first | (with_reducible assumption) | assumption)
                          have q17 : a1 < (a0.size : Int) := of_decide_eq_true (by first | (with_reducible assumption) | assumption)
                          have hx17 := bt_at a0 a1
                          replace p17 := eq_true p17
                          replace q17 := eq_true q17
                          have p44 : 0 ≤ (a1 : Int) := of_decide_eq_true (by first | (with_reducible assumption) | assumption)
                          have q44 : a1 < (a0.size : Int) := of_decide_eq_true (by first | (with_reducible assumption) | assumption)
                          have hx44 := bt_at a0 a1
                          replace p44 := eq_true p44
                          replace q44 := eq_true q44
                          go_wp2_with (first | ((with_reducible refine gate_callee (f := 95) rfl ?_); refine goesL_ (some 95) rfl rfl Tryd.func95 (by kernel_rfl) rfl #[.int .u8 (bt a0 a1)] rfl (by (try simp only [List.map_toArray, List.map_cons, List.map_nil]); first | done | rfl | (simp only [List.length_drop, List.length_take]; rfl)) ?_; (with_reducible refine (salchowref09_sign.calls kj5 (bt a0 a1) false _ A45.out).mono ?_); rintro e w' ⟨rfl, ⟨nd, rfl⟩⟩; refine ⟨_, rfl, ?_⟩; (try (rw [drewN_self wc]; generalize hq_ : World.drewN wc _ = wc; have n0_ : Aside0 (wc.heap[gb212]? = some (.cells #[.int .i64 0, .string (⟨#[]⟩ : ByteArray), .int .i64 0, .int .i64 0] 46 (0, 0))) := ⟨by rw [← hq_]; exact (bk_ BK212.out)⟩; have n1_ : Aside0 (Below w.heap.size w wc) := ⟨by rw [← hq_]; exact (bl1_ HB.out GE212.out)⟩; clear BK212 HB hq_; have BK212 := n0_; have HB := n1_; clear n0_ n1_))) | ((with_reducible refine gate_callee (f := 96) rfl ?_); refine goesL_ (some 111) rfl rfl Tryd.func96 (by kernel_rfl) rfl #[.string (a0.extract (a1 : Int).toNat (x7_5 : Int).toNat), .bool true, .bool false] rfl (by (try simp only [List.map_toArray, List.map_cons, List.map_nil]); first | done | rfl | (simp only [List.length_drop, List.length_take]; rfl)) ?_; (with_reducible refine (salchowref09_has.calls kj5 (a0.extract (a1 : Int).toNat (x7_5 : Int).toNat) true false false _ A53.out).mono ?_); rintro e w' ⟨rfl, ⟨nd, rfl⟩⟩; refine ⟨_, rfl, ?_⟩; (try (rw [drewN_self wc]; generalize hq_ : World.drewN wc _ = wc; have n0_ : Aside0 (wc.heap[gb212]? = some (.cells #[.int .i64 0, .string (⟨#[]⟩ : ByteArray), .int .i64 0, .int .i64 0] 46 (0, 0))) := ⟨by rw [← hq_]; exact (bk_ BK212.out)⟩; have n1_ : Aside0 (Below w.heap.size w wc) := ⟨by rw [← hq_]; exact (bl1_ HB.out GE212.out)⟩; clear BK212 HB hq_; have BK212 := n0_; have HB := n1_; clear n0_ n1_))) | ((with_reducible refine gate_callee (f := 97) rfl ?_); refine goesL_ (some 125) rfl rfl Tryd.func97 (by kernel_rfl) rfl #[.string (a0.extract (a1 : Int).toNat (x7_5 : Int).toNat)] rfl (by (try simp only [List.map_toArray, List.map_cons, List.map_nil]); first | done | rfl | (simp only [List.length_drop, List.length_take]; rfl)) ?_; (with_reducible refine (salchowref09_number.calls kj5 (a0.extract (a1 : Int).toNat (x7_5 : Int).toNat) t218 t219 _ A61.out).mono ?_); rintro e w' ⟨rfl, ⟨nd, rfl⟩⟩; refine ⟨_, rfl, ?_⟩; (try (rw [drewN_self wc]; generalize hq_ : World.drewN wc _ = wc; have n0_ : Aside0 (wc.heap[gb212]? = some (.cells #[.int .i64 0, .string (⟨#[]⟩ : ByteArray), .int .i64 0, .int .i64 0] 46 (0, 0))) := ⟨by rw [← hq_]; exact (bk_ BK212.out)⟩; have n1_ : Aside0 (Below w.heap.size w wc) := ⟨by rw [← hq_]; exact (bl1_ HB.out GE212.out)⟩; clear BK212 HB hq_; have BK212 := n0_; have HB := n1_; clear n0_ n1_)); have hcz63_0 : wc.cell? ⟨gb212, 0, none⟩ = some (.int .i64 0) := (blk_cell BK212.out 0).trans rfl; have hcz63_1 : wc.cell? ⟨gb212, 1, none⟩ = some (.string (⟨#[]⟩ : ByteArray)) := (blk_cell BK212.out 1).trans rfl; have hcz63_2 : wc.cell? ⟨gb212, 2, none⟩ = some (.int .i64 0) := (blk_cell BK212.out 2).trans rfl; have hcz63_3 : wc.cell? ⟨gb212, 3, none⟩ = some (.int .i64 0) := (blk_cell BK212.out 3).trans rfl; have hfz63_0 := blk_frozen BK212.out 0; have hfz63_1 := blk_frozen BK212.out 1; have hfz63_2 := blk_frozen BK212.out 2; have hfz63_3 := blk_frozen BK212.out 3))
                          refine bodyPost_ret (results_ctt rfl _ _ gb212 46 #[.int .i64 2, .string (⟨#[]⟩ : ByteArray), .int .i64 t218, .int .i64 a1] (0, 0) _ rfl (by (with_reducible repeat (first | refine blk_drewN ?_ _ | refine blk_drew ?_ | refine blk_alloc ?_ _)); refine blk_put (cs := #[.int .i64 2, .string (⟨#[]⟩ : ByteArray), .int .i64 t218, .int .i64 0]) ?_ 3 _ rfl; (with_reducible repeat (first | refine blk_drewN ?_ _ | refine blk_drew ?_ | refine blk_alloc ?_ _)); refine blk_put (cs := #[.int .i64 2, .string (⟨#[]⟩ : ByteArray), .int .i64 0, .int .i64 0]) ?_ 2 _ rfl; (with_reducible repeat (first | refine blk_drewN ?_ _ | refine blk_drew ?_ | refine blk_alloc ?_ _)); refine blk_put (cs := #[.int .i64 2, .string (⟨#[]⟩ : ByteArray), .int .i64 0, .int .i64 0]) ?_ 1 _ rfl; (with_reducible repeat (first | refine blk_drewN ?_ _ | refine blk_drew ?_ | refine blk_alloc ?_ _)); refine blk_put (cs := #[.int .i64 0, .string (⟨#[]⟩ : ByteArray), .int .i64 0, .int .i64 0]) ?_ 0 _ rfl; (with_reducible repeat (first | refine blk_drewN ?_ _ | refine blk_drew ?_ | refine blk_alloc ?_ _)); exact BK212.out) Tryd.underlying46 rfl (by kernel_rfl)) rfl ?_
                          exact ⟨er_, bl1_ HB.out GE212.out⟩
                        · rw [if_neg c62] at H
                          have c62b0 : (t219 == 0) = false := beq_eq_false_iff_ne.mpr c62
                          have c62b1 : (t219 != 0) = true := bne_iff_ne.mpr c62
                          simp only [Option.some.injEq, Prod.mk.injEq] at H
                          obtain ⟨rfl, rfl, rfl, rfl, rfl, rfl⟩ := H
                          have p17 : 0 ≤ (a1 : Int) := of_decide_eq_true (by first | (with_reducible assumption) | assumption)
                          have q17 : a1 < (a0.size : Int) := of_decide_eq_true (by first | (with_reducible assumption) | assumption)
                          have hx17 := bt_at a0 a1
                          replace p17 := eq_true p17
                          replace q17 := eq_true q17
                          have p44 : 0 ≤ (a1 : Int) := of_decide_eq_true (by first | (with_reducible assumption) | assumption)
                          have q44 : a1 < (a0.size : Int) := of_decide_eq_true (by first | (with_reducible assumption) | assumption)
                          have hx44 := bt_at a0 a1
                          replace p44 := eq_true p44
                          replace q44 := eq_true q44
                          go_wp2_with (first | ((with_reducible refine gate_callee (f := 95) rfl ?_); refine goesL_ (some 95) rfl rfl Tryd.func95 (by kernel_rfl) rfl #[.int .u8 (bt a0 a1)] rfl (by (try simp only [List.map_toArray, List.map_cons, List.map_nil]); first | done | rfl | (simp only [List.length_drop, List.length_take]; rfl)) ?_; (with_reducible refine (salchowref09_sign.calls kj5 (bt a0 a1) false _ A45.out).mono ?_); rintro e w' ⟨rfl, ⟨nd, rfl⟩⟩; refine ⟨_, rfl, ?_⟩; (try (rw [drewN_self wc]; generalize hq_ : World.drewN wc _ = wc; have n0_ : Aside0 (wc.heap[gb212]? = some (.cells #[.int .i64 0, .string (⟨#[]⟩ : ByteArray), .int .i64 0, .int .i64 0] 46 (0, 0))) := ⟨by rw [← hq_]; exact (bk_ BK212.out)⟩; have n1_ : Aside0 (Below w.heap.size w wc) := ⟨by rw [← hq_]; exact (bl1_ HB.out GE212.out)⟩; clear BK212 HB hq_; have BK212 := n0_; have HB := n1_; clear n0_ n1_))) | ((with_reducible refine gate_callee (f := 96) rfl ?_); refine goesL_ (some 111) rfl rfl Tryd.func96 (by kernel_rfl) rfl #[.string (a0.extract (a1 : Int).toNat (x7_5 : Int).toNat), .bool true, .bool false] rfl (by (try simp only [List.map_toArray, List.map_cons, List.map_nil]); first | done | rfl | (simp only [List.length_drop, List.length_take]; rfl)) ?_; (with_reducible refine (salchowref09_has.calls kj5 (a0.extract (a1 : Int).toNat (x7_5 : Int).toNat) true false false _ A53.out).mono ?_); rintro e w' ⟨rfl, ⟨nd, rfl⟩⟩; refine ⟨_, rfl, ?_⟩; (try (rw [drewN_self wc]; generalize hq_ : World.drewN wc _ = wc; have n0_ : Aside0 (wc.heap[gb212]? = some (.cells #[.int .i64 0, .string (⟨#[]⟩ : ByteArray), .int .i64 0, .int .i64 0] 46 (0, 0))) := ⟨by rw [← hq_]; exact (bk_ BK212.out)⟩; have n1_ : Aside0 (Below w.heap.size w wc) := ⟨by rw [← hq_]; exact (bl1_ HB.out GE212.out)⟩; clear BK212 HB hq_; have BK212 := n0_; have HB := n1_; clear n0_ n1_))) | ((with_reducible refine gate_callee (f := 97) rfl ?_); refine goesL_ (some 125) rfl rfl Tryd.func97 (by kernel_rfl) rfl #[.string (a0.extract (a1 : Int).toNat (x7_5 : Int).toNat)] rfl (by (try simp only [List.map_toArray, List.map_cons, List.map_nil]); first | done | rfl | (simp only [List.length_drop, List.length_take]; rfl)) ?_; (with_reducible refine (salchowref09_number.calls kj5 (a0.extract (a1 : Int).toNat (x7_5 : Int).toNat) t218 t219 _ A61.out).mono ?_); rintro e w' ⟨rfl, ⟨nd, rfl⟩⟩; refine ⟨_, rfl, ?_⟩; (try (rw [drewN_self wc]; generalize hq_ : World.drewN wc _ = wc; have n0_ : Aside0 (wc.heap[gb212]? = some (.cells #[.int .i64 0, .string (⟨#[]⟩ : ByteArray), .int .i64 0, .int .i64 0] 46 (0, 0))) := ⟨by rw [← hq_]; exact (bk_ BK212.out)⟩; have n1_ : Aside0 (Below w.heap.size w wc) := ⟨by rw [← hq_]; exact (bl1_ HB.out GE212.out)⟩; clear BK212 HB hq_; have BK212 := n0_; have HB := n1_; clear n0_ n1_)); have hcz64_0 : wc.cell? ⟨gb212, 0, none⟩ = some (.int .i64 0) := (blk_cell BK212.out 0).trans rfl; have hcz64_1 : wc.cell? ⟨gb212, 1, none⟩ = some (.string (⟨#[]⟩ : ByteArray)) := (blk_cell BK212.out 1).trans rfl; have hcz64_2 : wc.cell? ⟨gb212, 2, none⟩ = some (.int .i64 0) := (blk_cell BK212.out 2).trans rfl; have hcz64_3 : wc.cell? ⟨gb212, 3, none⟩ = some (.int .i64 0) := (blk_cell BK212.out 3).trans rfl; have hfz64_0 := blk_frozen BK212.out 0; have hfz64_1 := blk_frozen BK212.out 1; have hfz64_2 := blk_frozen BK212.out 2; have hfz64_3 := blk_frozen BK212.out 3))
                          refine bodyPost_ret (results_ctt rfl _ _ gb212 46 #[.int .i64 0, .string (⟨#[]⟩ : ByteArray), .int .i64 0, .int .i64 0] (0, 0) _ rfl (by (with_reducible repeat (first | refine blk_drewN ?_ _ | refine blk_drew ?_ | refine blk_alloc ?_ _)); refine blk_put (cs := #[.int .i64 0, .string (⟨#[]⟩ : ByteArray), .int .i64 0, .int .i64 0]) ?_ 3 _ rfl; (with_reducible repeat (first | refine blk_drewN ?_ _ | refine blk_drew ?_ | refine blk_alloc ?_ _)); refine blk_put (cs := #[.int .i64 0, .string (⟨#[]⟩ : ByteArray), .int .i64 0, .int .i64 0]) ?_ 2 _ rfl; (with_reducible repeat (first | refine blk_drewN ?_ _ | refine blk_drew ?_ | refine blk_alloc ?_ _)); refine blk_put (cs := #[.int .i64 0, .string (⟨#[]⟩ : ByteArray), .int .i64 0, .int .i64 0]) ?_ 1 _ rfl; (with_reducible repeat (first | refine blk_drewN ?_ _ | refine blk_drew ?_ | refine blk_alloc ?_ _)); refine blk_put (cs := #[.int .i64 0, .string (⟨#[]⟩ : ByteArray), .int .i64 0, .int .i64 0]) ?_ 0 _ rfl; (with_reducible repeat (first | refine blk_drewN ?_ _ | refine blk_drew ?_ | refine blk_alloc ?_ _)); exact BK212.out) Tryd.underlying46 rfl (by kernel_rfl)) rfl ?_
                          exact ⟨er_, bl1_ HB.out GE212.out⟩
              · rw [if_neg c16] at H
                exact absurd H (by simp)
            · rw [if_neg c15] at H
              exact absurd H (by simp)
          · rw [if_neg c14] at H
            exact absurd H (by simp)
        · rw [if_neg c13] at H
          exact absurd H (by simp)
end Go.Proofs.YtkifdadhojbohaaDoor.Pr
