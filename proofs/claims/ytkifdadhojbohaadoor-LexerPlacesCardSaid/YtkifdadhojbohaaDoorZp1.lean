/- Joined out of the texts of this proof that bear the names PrF40 PrF10 PuL RowLexerPlaces: what each shows stands over it there. -/
import Derived.Test.YtkifdadhojbohaaDoorZb1
import Derived.Test.YtkifdadhojbohaaDoorZa1
import Derived.Test.YtkifdadhojbohaaDoorZr1
import Derived.Test.YtkifdadhojbohaaDoorCards
import Derived.Test.YtkifdadhojbohaaDoorTie
import Derived.WalkKit
import Derived.OpenShut
import Derived.ShutString
import Derived.ChangeOld
import Derived.SizedLaws
import Derived.SevenTiedAt
import Derived.Handed
import Derived.LaidLaws
set_option linter.unusedVariables false
set_option linter.unusedSimpArgs false
namespace Go.Proofs.YtkifdadhojbohaaDoor.Pr
open Go.Proofs.YtkifdadhojbohaaDoor
open Go.RowKit Go.Proofs.YtkifdadhojbohaaDoorW.PrintWords Go.Proofs.YtkifdadhojbohaaDoorW.PrintLast Go.Proofs.YtkifdadhojbohaaDoorW.PrintMore
attribute [local go_sem] max2_int min2_int max_two min_two max_three min_three max_four min_four   -- for this text's walks alone
set_option linter.unusedVariables false
set_option linter.unusedSimpArgs false
/-! ### salchowref09_Place: function 40 -/
mutual
def salchowref09_Place.l0 : Nat → ByteArray → Int → Int → Int → Int → Option (Int × Int)
  | 0, _, _, _, _, _ => none
  | k + 1, x0, x1, x6, x7, x8 => if x8 < x1 then (salchowref09_Place.j1 k x0 x1 x6 x7 x8 (decide (x8 < (x0.size : Int)))) else (salchowref09_Place.j1 k x0 x1 x6 x7 x8 false)
def salchowref09_Place.j1 : Nat → ByteArray → Int → Int → Int → Int → Bool → Option (Int × Int)
  | 0, _, _, _, _, _, _ => none
  | k + 1, x0, x1, x6, x7, x8, x17 => if x17 = true then (if 0 ≤ x8 then (if x8 < (x0.size : Int) then (if (bt x0 x8) = 10 then (salchowref09_Place.l0 k x0 x1 (wrap64 (x6 + 1)) 1 (wrap64 (x8 + 1))) else (salchowref09_Place.l0 k x0 x1 x6 (wrap64 (x7 + 1)) (wrap64 (x8 + 1)))) else (none)) else (none)) else (some (x6, x7))
end
def salchowref09_Place.f (k : Nat) (a0 : ByteArray) (a1 : Int) : Option (Int × Int) := salchowref09_Place.l0 k a0 a1 1 1 0
theorem salchowref09_Place.mono_l : ∀ k, (∀ y0 y1 y2 y3 y4, LeO (salchowref09_Place.l0 k y0 y1 y2 y3 y4) (salchowref09_Place.l0 (k + 1) y0 y1 y2 y3 y4)) ∧ (∀ y0 y1 y2 y3 y4 y5, LeO (salchowref09_Place.j1 k y0 y1 y2 y3 y4 y5) (salchowref09_Place.j1 (k + 1) y0 y1 y2 y3 y4 y5))
  | 0 => ⟨fun _ _ _ _ _ r h => by simp [salchowref09_Place.l0] at h, fun _ _ _ _ _ _ r h => by simp [salchowref09_Place.j1] at h⟩
  | k + 1 => by
    obtain ⟨ih0, ih1⟩ := salchowref09_Place.mono_l k
    refine ⟨?_, ?_⟩
    · intro y0 y1 y2 y3 y4
      unfold salchowref09_Place.l0
      repeat' first
      | (with_reducible exact ih0 _ _ _ _ _)
      | (with_reducible exact ih1 _ _ _ _ _ _)
      | (with_reducible exact LeO.refl _)
      | (with_reducible exact LeO.none _)
      | (with_reducible refine LeO.ite ?_ ?_)
      | (with_reducible refine LeO.bind ?_ (fun _ => ?_))
      | exact ih0 _ _ _ _ _
      | exact ih1 _ _ _ _ _ _
      | exact LeO.none _
      | refine LeO.ite ?_ ?_
      | refine LeO.bind ?_ (fun _ => ?_)
    · intro y0 y1 y2 y3 y4 y5
      unfold salchowref09_Place.j1
      repeat' first
      | (with_reducible exact ih0 _ _ _ _ _)
      | (with_reducible exact ih1 _ _ _ _ _ _)
      | (with_reducible exact LeO.refl _)
      | (with_reducible exact LeO.none _)
      | (with_reducible refine LeO.ite ?_ ?_)
      | (with_reducible refine LeO.bind ?_ (fun _ => ?_))
      | exact ih0 _ _ _ _ _
      | exact ih1 _ _ _ _ _ _
      | exact LeO.none _
      | refine LeO.ite ?_ ?_
      | refine LeO.bind ?_ (fun _ => ?_)
theorem salchowref09_Place.mono : ∀ a0 a1 k, LeO (salchowref09_Place.f k a0 a1) (salchowref09_Place.f (k + 1) a0 a1) := by
  intro a0 a1 k
  obtain ⟨ih0, ih1⟩ := salchowref09_Place.mono_l k
  unfold salchowref09_Place.f
  repeat' first
      | (with_reducible exact ih0 _ _ _ _ _)
      | (with_reducible exact ih1 _ _ _ _ _ _)
      | (with_reducible exact LeO.refl _)
      | (with_reducible exact LeO.none _)
      | (with_reducible refine LeO.ite ?_ ?_)
      | (with_reducible refine LeO.bind ?_ (fun _ => ?_))
      | exact ih0 _ _ _ _ _
      | exact ih1 _ _ _ _ _ _
      | exact LeO.none _
      | refine LeO.ite ?_ ?_
      | refine LeO.bind ?_ (fun _ => ?_)
set_option maxHeartbeats 8000000 in
set_option maxRecDepth 100000 in
theorem salchowref09_Place.calls (k : Nat) (a0 : ByteArray) (a1 : Int) (r1 : Int) (r2 : Int) (w : World) (h : salchowref09_Place.f k a0 a1 = some (r1, r2)) :
    Calls Tryd.prog 40 #[.string a0, .int .i64 a1] w fun e w' => e = .returned (.tuple #[.int .i64 r1, .int .i64 r2]) ∧ Drawn0 w w' := by
  have H : (salchowref09_Place.l0 k a0 a1 1 1 0) = some (r1, r2) := h
  clear h
  have H' := Aside0.mk H
  clear H
  go_enter Tryd.func40, Tryd.ntmps40
  go_wp2
  go_loopg [6, 7, 8] k (fun kq v6 v7 v8 w' => ∃ (x6_1 : Int) (x7_1 : Int) (x8_1 : Int), v6 = .int .i64 x6_1 ∧ v7 = .int .i64 x7_1 ∧ v8 = .int .i64 x8_1 ∧ Aside0 (salchowref09_Place.l0 kq a0 a1 x6_1 x7_1 x8_1 = some (r1, r2)) ∧ Aside0 (kq ≤ k) ∧ Drawn0 w w')
  case atStart => exact ⟨(1), (1), (0), (by first | rfl | (simp; done) | (simp [*]; done) | (simp <;> rfl)), (by first | rfl | (simp; done) | (simp [*]; done) | (simp <;> rfl)), (by first | rfl | (simp; done) | (simp [*]; done) | (simp <;> rfl)), H', ⟨Nat.le_refl _⟩, by repeat (first | exact Drawn0.refl _ | apply Drawn0.step)⟩
  case round =>
    clear H'
    try clear p2
    obtain ⟨x6_1, x7_1, x8_1, rfl, rfl, rfl, HA, HK1, ⟨m1, rfl⟩⟩ := hrel
    cases gk with
    | zero => exact absurd HA.out (by simp [salchowref09_Place.l0])
    | succ k1 =>
      have H := HA.out
      clear HA
      simp only [salchowref09_Place.l0] at H
      have HC3 := Aside0.mk H
      clear H
      go_upto_region 3 with (fail)
      go_cut [17] (fun v17 wc => ∃ (kq : Nat) (x17_2 : Bool), v17 = .bool x17_2 ∧ Aside0 (salchowref09_Place.j1 kq a0 a1 x6_1 x7_1 x8_1 x17_2 = some (r1, r2)) ∧ Aside0 (kq ≤ k1) ∧ Drawn0 w wc)
      case first =>
        have H := HC3.out
        clear HC3
        by_cases c4 : x8_1 < a1
        · rw [if_pos c4] at H
          have c4b0 : decide (x8_1 < a1) = true := decide_eq_true c4
          clear c4
          (first | rw [c4b0] | (simp only [i64_w, i32_w]; rw [c4b0]) | skip)
          have H' := Aside0.mk H
          clear H
          go_wp2
          go_meet
          case rel => exact ⟨_, (decide (x8_1 < (a0.size : Int))), (by first | rfl | (simp; done) | (simp [*]; done) | (simp <;> rfl)), H', ⟨by have := HK1.out; first | omega | exact Nat.le_refl _⟩, by repeat (first | exact Drawn0.refl _ | apply Drawn0.step)⟩
        · rw [if_neg c4] at H
          have c4b0 : decide (x8_1 < a1) = false := decide_eq_false c4
          clear c4
          (first | rw [c4b0] | (simp only [i64_w, i32_w]; rw [c4b0]) | skip)
          have H' := Aside0.mk H
          clear H
          go_wp2
          go_meet
          case rel => exact ⟨_, (false), (by first | rfl | (simp; done) | (simp [*]; done) | (simp <;> rfl)), H', ⟨by have := HK1.out; first | omega | exact Nat.le_refl _⟩, by repeat (first | exact Drawn0.refl _ | apply Drawn0.step)⟩
      case rest =>
        clear HC3
        try clear p2
        try clear c4
        try clear c4b0
        try clear p2
        obtain ⟨kq, x17_2, rfl, HA, HJ2, ⟨mc2, rfl⟩⟩ := hcut
        cases kq with
        | zero => exact absurd HA.out (by simp [salchowref09_Place.j1])
        | succ kj2 =>
          have H := HA.out
          clear HA
          simp only [salchowref09_Place.j1] at H
          by_cases c5 : x17_2 = true
          · subst c5
            have H1 : (if 0 ≤ x8_1 then (if x8_1 < (a0.size : Int) then (if (bt a0 x8_1) = 10 then (salchowref09_Place.l0 kj2 a0 a1 (wrap64 (x6_1 + 1)) 1 (wrap64 (x8_1 + 1))) else (salchowref09_Place.l0 kj2 a0 a1 x6_1 (wrap64 (x7_1 + 1)) (wrap64 (x8_1 + 1)))) else (none)) else (none)) = some (r1, r2) := by rw [if_pos rfl] at H; exact H
            clear H
            have H := H1
            clear H1
            by_cases c6 : 0 ≤ x8_1
            · rw [if_pos c6] at H
              have c6b0 : decide (0 ≤ x8_1) = true := decide_eq_true c6
              clear c6
              by_cases c7 : x8_1 < (a0.size : Int)
              · rw [if_pos c7] at H
                have c7b0 : decide (x8_1 < (a0.size : Int)) = true := decide_eq_true c7
                clear c7
                by_cases c9 : (bt a0 x8_1) = 10
                · rw [if_pos c9] at H
                  have c9b0 : ((bt a0 x8_1) == 10) = true := beq_iff_eq.mpr c9
                  have c9b1 : ((bt a0 x8_1) != 10) = false := bne_eq_false_iff_eq.mpr c9
                  clear c9
                  have H' := Aside0.mk H
                  clear H
                  have p8 : 0 ≤ (x8_1 : Int) := of_decide_eq_true (by first | (with_reducible assumption) | assumption)
                  have q8 : x8_1 < (a0.size : Int) := of_decide_eq_true (by first | (with_reducible assumption) | assumption)
                  have hx8 := bt_at a0 x8_1
                  replace p8 := eq_true p8
                  replace q8 := eq_true q8
                  go_wp2
                  go_roundg kj2
                  case measure => have := HK1.out; have := HJ2.out; omega
                  case rel => exact ⟨(wrap64 (x6_1 + 1)), (1), (wrap64 (x8_1 + 1)), (by first | rfl | (simp; done) | (simp [*]; done) | (simp <;> rfl)), (by first | rfl | (simp; done) | (simp [*]; done) | (simp <;> rfl)), (by first | rfl | (simp; done) | (simp [*]; done) | (simp <;> rfl)), H', ⟨by have := HK1.out; have := HJ2.out; omega⟩, by repeat (first | exact Drawn0.refl _ | apply Drawn0.step)⟩
                · rw [if_neg c9] at H
                  have c9b0 : ((bt a0 x8_1) == 10) = false := beq_eq_false_iff_ne.mpr c9
                  have c9b1 : ((bt a0 x8_1) != 10) = true := bne_iff_ne.mpr c9
                  have H' := Aside0.mk H
                  clear H
                  have p8 : 0 ≤ (x8_1 : Int) := of_decide_eq_true (by first | (with_reducible assumption) | assumption)
                  have q8 : x8_1 < (a0.size : Int) := of_decide_eq_true (by first | (with_reducible assumption) | assumption)
                  have hx8 := bt_at a0 x8_1
                  replace p8 := eq_true p8
                  replace q8 := eq_true q8
                  go_wp2
                  go_roundg kj2
                  case measure => have := HK1.out; have := HJ2.out; omega
                  case rel => exact ⟨(x6_1), (wrap64 (x7_1 + 1)), (wrap64 (x8_1 + 1)), (by first | rfl | (simp; done) | (simp [*]; done) | (simp <;> rfl)), (by first | rfl | (simp; done) | (simp [*]; done) | (simp <;> rfl)), (by first | rfl | (simp; done) | (simp [*]; done) | (simp <;> rfl)), H', ⟨by have := HK1.out; have := HJ2.out; omega⟩, by repeat (first | exact Drawn0.refl _ | apply Drawn0.step)⟩
              · rw [if_neg c7] at H
                exact absurd H (by simp)
            · rw [if_neg c6] at H
              exact absurd H (by simp)
          · replace c5 := Bool.eq_false_iff.mpr c5
            subst c5
            have H1 : (some (x6_1, x7_1)) = some (r1, r2) := by rw [if_neg (show ¬ (false = true) by decide)] at H; exact H
            clear H
            have H := H1
            clear H1
            simp only [Option.some.injEq, Prod.mk.injEq] at H
            obtain ⟨rfl, rfl⟩ := H
            go_wp2
            go_ret2
            exact ⟨by first | rfl | (simp; done) | (simp [*]; done) | (simp <;> rfl), by repeat (first | exact Drawn0.refl _ | apply Drawn0.step)⟩
end Go.Proofs.YtkifdadhojbohaaDoor.Pr
namespace Go.Proofs.YtkifdadhojbohaaDoor.Pr
open Go.Proofs.YtkifdadhojbohaaDoor
open Go.RowKit Go.Proofs.YtkifdadhojbohaaDoorW.PrintWords Go.Proofs.YtkifdadhojbohaaDoorW.PrintLast Go.Proofs.YtkifdadhojbohaaDoorW.PrintMore
attribute [local go_sem] max2_int min2_int max_two min_two max_three min_three max_four min_four   -- for this text's walks alone
set_option linter.unusedVariables false
set_option linter.unusedSimpArgs false
/-! ### salchowlaw09_LexerPlaces: function 10 -/
mutual
def salchowlaw09_LexerPlaces.j0 : Nat → ByteArray → Int → Int → Int → Bool → Option (Bool)
  | 0, _, _, _, _, _ => none
  | k + 1, x0, x1, x5, x6, x34 => if x34 = true then (some false) else (if x1 < 0 then (salchowlaw09_LexerPlaces.j1 k x0 x1 x5 x6 true) else (salchowlaw09_LexerPlaces.j1 k x0 x1 x5 x6 (decide (x1 ≥ (x0.size : Int)))))
def salchowlaw09_LexerPlaces.j1 : Nat → ByteArray → Int → Int → Int → Bool → Option (Bool)
  | 0, _, _, _, _, _ => none
  | k + 1, x0, x1, x5, x6, x42 => if x42 = true then ((salchowlaw09_awake.f k).bind fun t448 => (some t448)) else ((lexer_Place.f x0 (wrap64 (x1 + 1))).bind fun bt449 => ((salchowlaw09_awake.f k).bind fun t451 => (if t451 = true then (if 0 ≤ x1 then (if x1 < (x0.size : Int) then (if (bt x0 x1) = 10 then (if bt449.1 = (wrap64 (x5 + 1)) then (if bt449.2 = 1 then (some true) else (some false)) else (some false)) else (if bt449.1 = x5 then (some (bt449.2 == (wrap64 (x6 + 1)))) else (some false))) else (none)) else (none)) else (some false))))
end
def salchowlaw09_LexerPlaces.f (k : Nat) (a0 : ByteArray) (a1 : Int) : Option (Bool) := if (a0.size : Int) > 2000 then ((salchowlaw09_awake.f k).bind fun t443 => (some t443)) else ((lexer_Place.f a0 a1).bind fun bt444 => ((salchowref09_Place.f k a0 a1).bind fun bt446 => (if bt444.1 = bt446.1 then (salchowlaw09_LexerPlaces.j0 k a0 a1 bt444.1 bt444.2 (bt444.2 != bt446.2)) else (salchowlaw09_LexerPlaces.j0 k a0 a1 bt444.1 bt444.2 true))))
theorem salchowlaw09_LexerPlaces.mono_l : ∀ k, (∀ y0 y1 y2 y3 y4, LeO (salchowlaw09_LexerPlaces.j0 k y0 y1 y2 y3 y4) (salchowlaw09_LexerPlaces.j0 (k + 1) y0 y1 y2 y3 y4)) ∧ (∀ y0 y1 y2 y3 y4, LeO (salchowlaw09_LexerPlaces.j1 k y0 y1 y2 y3 y4) (salchowlaw09_LexerPlaces.j1 (k + 1) y0 y1 y2 y3 y4))
  | 0 => ⟨fun _ _ _ _ _ r h => by simp [salchowlaw09_LexerPlaces.j0] at h, fun _ _ _ _ _ r h => by simp [salchowlaw09_LexerPlaces.j1] at h⟩
  | k + 1 => by
    obtain ⟨ih0, ih1⟩ := salchowlaw09_LexerPlaces.mono_l k
    refine ⟨?_, ?_⟩
    · intro y0 y1 y2 y3 y4
      unfold salchowlaw09_LexerPlaces.j0
      repeat' first
      | (with_reducible exact ih0 _ _ _ _ _)
      | (with_reducible exact ih1 _ _ _ _ _)
      | (with_reducible exact salchowlaw09_awake.mono _)
      | (with_reducible exact salchowref09_Place.mono _ _ _)
      | (with_reducible exact LeO.refl _)
      | (with_reducible exact LeO.none _)
      | (with_reducible refine LeO.ite ?_ ?_)
      | (with_reducible refine LeO.bind ?_ (fun _ => ?_))
      | exact ih0 _ _ _ _ _
      | exact ih1 _ _ _ _ _
      | exact salchowlaw09_awake.mono _
      | exact salchowref09_Place.mono _ _ _
      | exact LeO.none _
      | refine LeO.ite ?_ ?_
      | refine LeO.bind ?_ (fun _ => ?_)
    · intro y0 y1 y2 y3 y4
      unfold salchowlaw09_LexerPlaces.j1
      repeat' first
      | (with_reducible exact ih0 _ _ _ _ _)
      | (with_reducible exact ih1 _ _ _ _ _)
      | (with_reducible exact salchowlaw09_awake.mono _)
      | (with_reducible exact salchowref09_Place.mono _ _ _)
      | (with_reducible exact LeO.refl _)
      | (with_reducible exact LeO.none _)
      | (with_reducible refine LeO.ite ?_ ?_)
      | (with_reducible refine LeO.bind ?_ (fun _ => ?_))
      | exact ih0 _ _ _ _ _
      | exact ih1 _ _ _ _ _
      | exact salchowlaw09_awake.mono _
      | exact salchowref09_Place.mono _ _ _
      | exact LeO.none _
      | refine LeO.ite ?_ ?_
      | refine LeO.bind ?_ (fun _ => ?_)
theorem salchowlaw09_LexerPlaces.mono : ∀ a0 a1 k, LeO (salchowlaw09_LexerPlaces.f k a0 a1) (salchowlaw09_LexerPlaces.f (k + 1) a0 a1) := by
  intro a0 a1 k
  obtain ⟨ih0, ih1⟩ := salchowlaw09_LexerPlaces.mono_l k
  unfold salchowlaw09_LexerPlaces.f
  repeat' first
      | (with_reducible exact ih0 _ _ _ _ _)
      | (with_reducible exact ih1 _ _ _ _ _)
      | (with_reducible exact salchowlaw09_awake.mono _)
      | (with_reducible exact salchowref09_Place.mono _ _ _)
      | (with_reducible exact LeO.refl _)
      | (with_reducible exact LeO.none _)
      | (with_reducible refine LeO.ite ?_ ?_)
      | (with_reducible refine LeO.bind ?_ (fun _ => ?_))
      | exact ih0 _ _ _ _ _
      | exact ih1 _ _ _ _ _
      | exact salchowlaw09_awake.mono _
      | exact salchowref09_Place.mono _ _ _
      | exact LeO.none _
      | refine LeO.ite ?_ ?_
      | refine LeO.bind ?_ (fun _ => ?_)
set_option maxHeartbeats 8000000 in
set_option maxRecDepth 100000 in
theorem salchowlaw09_LexerPlaces.calls (k : Nat) (a0 : ByteArray) (a1 : Int) (r : Bool) (w : World) (hG : Gl w) (h : salchowlaw09_LexerPlaces.f k a0 a1 = some r) :
    Calls Tryd.prog 10 #[.string a0, .int .i64 a1] w fun e w' => e = .returned (.bool r) ∧ Below w.heap.size w w' := by
  have HB := Aside0.mk (Below.refl w.heap.size w)
  have H : (if (a0.size : Int) > 2000 then ((salchowlaw09_awake.f k).bind fun t443 => (some t443)) else ((lexer_Place.f a0 a1).bind fun bt444 => ((salchowref09_Place.f k a0 a1).bind fun bt446 => (if bt444.1 = bt446.1 then (salchowlaw09_LexerPlaces.j0 k a0 a1 bt444.1 bt444.2 (bt444.2 != bt446.2)) else (salchowlaw09_LexerPlaces.j0 k a0 a1 bt444.1 bt444.2 true))))) = some r := h
  clear h
  by_cases c3 : (a0.size : Int) > 2000
  · rw [if_pos c3] at H
    have c3b0 : decide (2000 < (a0.size : Int)) = true := decide_eq_true c3
    have c3b1 : decide (2000 < a0.size) = true := decide_eq_true (by omega)
    clear c3
    replace H := Option.bind_eq_some_iff.mp H
    obtain ⟨t443, A40, H⟩ := H
    replace H : (some t443) = some r := H
    have A4 := Aside0.mk A40
    clear A40
    obtain rfl := Option.some.inj H
    go_enter Tryd.func10, Tryd.ntmps10
    go_wp2_with (first | ((with_reducible refine gate_callee (f := 32) rfl ?_); refine goesL_ (some 14) rfl rfl Tryd.func32 (by kernel_rfl) rfl #[] rfl (by (try simp only [List.map_toArray, List.map_cons, List.map_nil]); first | done | rfl | (simp only [List.length_drop, List.length_take]; rfl)) ?_; (with_reducible refine (salchowlaw09_awake.calls k  t443 _ ?side1 A4.out).mono ?_); (case side1 => exact Gl.below hG (bl_ HB.out)); rintro e w5 ⟨rfl, hb⟩; refine ⟨_, rfl, ?_⟩; have n0_ := Aside0.mk (below_step (bl_ HB.out) hb); clear HB; have HB := n0_; clear n0_; (try clear hb); (try clear hb2); (try clear hk); (try clear hi)))
    go_ret
    exact ⟨er_, bl_ HB.out⟩
  · rw [if_neg c3] at H
    have c3b0 : decide (2000 < (a0.size : Int)) = false := decide_eq_false c3
    have c3b1 : decide (2000 < a0.size) = false := decide_eq_false (by omega)
    clear c3
    replace H := Option.bind_eq_some_iff.mp H
    obtain ⟨⟨t444, t445⟩, A60, H⟩ := H
    replace H : ((salchowref09_Place.f k a0 a1).bind fun bt446 => (if t444 = bt446.1 then (salchowlaw09_LexerPlaces.j0 k a0 a1 t444 t445 (t445 != bt446.2)) else (salchowlaw09_LexerPlaces.j0 k a0 a1 t444 t445 true))) = some r := H
    have A6 := Aside0.mk A60
    clear A60
    replace H := Option.bind_eq_some_iff.mp H
    obtain ⟨⟨t446, t447⟩, A70, H⟩ := H
    replace H : (if t444 = t446 then (salchowlaw09_LexerPlaces.j0 k a0 a1 t444 t445 (t445 != t447)) else (salchowlaw09_LexerPlaces.j0 k a0 a1 t444 t445 true)) = some r := H
    have A7 := Aside0.mk A70
    clear A70
    have HC8 := Aside0.mk H
    clear H
    go_enter Tryd.func10, Tryd.ntmps10
    go_upto_region 5 with (first | ((with_reducible refine gate_callee (f := 39) rfl ?_); refine goesL_ (some 18) rfl rfl Tryd.func39 (by kernel_rfl) rfl #[.string a0, .int .i64 a1] rfl (by (try simp only [List.map_toArray, List.map_cons, List.map_nil]); first | done | rfl | (simp only [List.length_drop, List.length_take]; rfl)) ?_; (with_reducible refine (lexer_Place.calls a0 a1 t444 t445 _ A6.out).mono ?_); rintro e w9 ⟨rfl, hb⟩; refine ⟨_, rfl, ?_⟩; have n0_ := Aside0.mk (below_step (bl_ HB.out) hb); clear HB; have HB := n0_; clear n0_; (try clear hb); (try clear hb2); (try clear hk); (try clear hi)) | ((with_reducible refine gate_callee (f := 40) rfl ?_); refine goesL_ (some 24) rfl rfl Tryd.func40 (by kernel_rfl) rfl #[.string a0, .int .i64 a1] rfl (by (try simp only [List.map_toArray, List.map_cons, List.map_nil]); first | done | rfl | (simp only [List.length_drop, List.length_take]; rfl)) ?_; (with_reducible refine (salchowref09_Place.calls k a0 a1 t446 t447 _ A7.out).mono ?_); rintro e w' ⟨rfl, ⟨nd, rfl⟩⟩; refine ⟨_, rfl, ?_⟩))
    (try simp only [Act.put, List.setIfInBounds_toArray, List.set_cons_zero, List.set_cons_succ])
    go_cut [34] (fun v34 wc => ∃ (kq : Nat) (x34_7 : Bool), v34 = .bool x34_7 ∧ Aside0 (salchowlaw09_LexerPlaces.j0 kq a0 a1 t444 t445 x34_7 = some r) ∧ Aside0 (kq ≤ k) ∧ Aside0 (Below w.heap.size w wc))
    case first =>
      have H := HC8.out
      clear HC8
      by_cases c10 : t444 = t446
      · rw [if_pos c10] at H
        have c10b0 : (t444 == t446) = true := beq_iff_eq.mpr c10
        have c10b1 : (t444 != t446) = false := bne_eq_false_iff_eq.mpr c10
        clear c10
        (first | rw [c10b0] | (simp only [i64_w, i32_w]; rw [c10b0]) | skip)
        have H' := Aside0.mk H
        clear H
        go_wp2
        go_meet
        case rel => exact ⟨_, ((t445 != t447)), (by first | rfl | (simp; done) | (simp [*]; done) | (simp <;> rfl)), H', ⟨by first | omega | exact Nat.le_refl _⟩, ⟨bl_ HB.out⟩⟩
      · rw [if_neg c10] at H
        have c10b0 : (t444 == t446) = false := beq_eq_false_iff_ne.mpr c10
        have c10b1 : (t444 != t446) = true := bne_iff_ne.mpr c10
        (first | rw [c10b0] | (simp only [i64_w, i32_w]; rw [c10b0]) | skip)
        have H' := Aside0.mk H
        clear H
        go_wp2
        go_meet
        case rel => exact ⟨_, (true), (by first | rfl | (simp; done) | (simp [*]; done) | (simp <;> rfl)), H', ⟨by first | omega | exact Nat.le_refl _⟩, ⟨bl_ HB.out⟩⟩
    case rest =>
      clear HC8
      try clear c1
      try clear p2
      try clear c3
      try clear c3b0
      try clear c3b1
      try clear c4
      try clear c10
      try clear c10b0
      try clear c10b1
      obtain ⟨kq, x34_7, rfl, HA, HJ7, HB⟩ := hcut
      cases kq with
      | zero => exact absurd HA.out (by simp [salchowlaw09_LexerPlaces.j0])
      | succ kj7 =>
        have H := HA.out
        clear HA
        simp only [salchowlaw09_LexerPlaces.j0] at H
        by_cases c11 : x34_7 = true
        · subst c11
          have H1 : (some false) = some r := by rw [if_pos rfl] at H; exact H
          clear H
          have H := H1
          clear H1
          obtain rfl := Option.some.inj H
          go_wp2
          go_ret
          exact ⟨er_, bl_ HB.out⟩
        · replace c11 := Bool.eq_false_iff.mpr c11
          subst c11
          have H1 : (if a1 < 0 then (salchowlaw09_LexerPlaces.j1 kj7 a0 a1 t444 t445 true) else (salchowlaw09_LexerPlaces.j1 kj7 a0 a1 t444 t445 (decide (a1 ≥ (a0.size : Int))))) = some r := by rw [if_neg (show ¬ (false = true) by decide)] at H; exact H
          clear H
          have H := H1
          clear H1
          have HC12 := Aside0.mk H
          clear H
          go_upto_region 7 with (fail)
          go_cut [42] (fun v42 wc => ∃ (kq : Nat) (x42_11 : Bool), v42 = .bool x42_11 ∧ Aside0 (salchowlaw09_LexerPlaces.j1 kq a0 a1 t444 t445 x42_11 = some r) ∧ Aside0 (kq ≤ kj7) ∧ Aside0 (Below w.heap.size w wc))
          case first =>
            have H := HC12.out
            clear HC12
            by_cases c13 : a1 < 0
            · rw [if_pos c13] at H
              have c13b0 : decide (a1 < 0) = true := decide_eq_true c13
              clear c13
              (first | rw [c13b0] | (simp only [i64_w, i32_w]; rw [c13b0]) | skip)
              have H' := Aside0.mk H
              clear H
              go_wp2
              go_meet
              case rel => exact ⟨_, (true), (by first | rfl | (simp; done) | (simp [*]; done) | (simp <;> rfl)), H', ⟨by have := HJ7.out; first | omega | exact Nat.le_refl _⟩, ⟨bl_ HB.out⟩⟩
            · rw [if_neg c13] at H
              have c13b0 : decide (a1 < 0) = false := decide_eq_false c13
              clear c13
              (first | rw [c13b0] | (simp only [i64_w, i32_w]; rw [c13b0]) | skip)
              have H' := Aside0.mk H
              clear H
              go_wp2
              go_meet
              case rel => exact ⟨_, (decide (a1 ≥ (a0.size : Int))), (by first | rfl | (simp; done) | (simp [*]; done) | (simp <;> rfl)), H', ⟨by have := HJ7.out; first | omega | exact Nat.le_refl _⟩, ⟨bl_ HB.out⟩⟩
          case rest =>
            clear HC12
            try clear c1
            try clear p2
            try clear c3
            try clear c3b0
            try clear c3b1
            try clear c4
            try clear c10
            try clear c10b0
            try clear c10b1
            try clear c11
            try clear c13
            try clear c13b0
            try clear p2
            obtain ⟨kq, x42_11, rfl, HA, HJ11, HB⟩ := hcut
            cases kq with
            | zero => exact absurd HA.out (by simp [salchowlaw09_LexerPlaces.j1])
            | succ kj11 =>
              have H := HA.out
              clear HA
              simp only [salchowlaw09_LexerPlaces.j1] at H
              by_cases c14 : x42_11 = true
              · subst c14
                have H1 : ((salchowlaw09_awake.f kj11).bind fun t448 => (some t448)) = some r := by rw [if_pos rfl] at H; exact H
                clear H
                have H := H1
                clear H1
                replace H := Option.bind_eq_some_iff.mp H
                obtain ⟨t448, A150, H⟩ := H
                replace H : (some t448) = some r := H
                have A15 := Aside0.mk A150
                clear A150
                obtain rfl := Option.some.inj H
                go_wp2_with (first | ((with_reducible refine gate_callee (f := 32) rfl ?_); refine goesL_ (some 43) rfl rfl Tryd.func32 (by kernel_rfl) rfl #[] rfl (by (try simp only [List.map_toArray, List.map_cons, List.map_nil]); first | done | rfl | (simp only [List.length_drop, List.length_take]; rfl)) ?_; (with_reducible refine (salchowlaw09_awake.calls kj11  t448 _ ?side1 A15.out).mono ?_); (case side1 => exact Gl.below hG (bl_ HB.out)); rintro e w16 ⟨rfl, hb⟩; refine ⟨_, rfl, ?_⟩; have n0_ := Aside0.mk (below_step (bl_ HB.out) hb); clear HB; have HB := n0_; clear n0_; (try clear hb); (try clear hb2); (try clear hk); (try clear hi)))
                go_ret
                exact ⟨er_, bl_ HB.out⟩
              · replace c14 := Bool.eq_false_iff.mpr c14
                subst c14
                have H1 : ((lexer_Place.f a0 (wrap64 (a1 + 1))).bind fun bt449 => ((salchowlaw09_awake.f kj11).bind fun t451 => (if t451 = true then (if 0 ≤ a1 then (if a1 < (a0.size : Int) then (if (bt a0 a1) = 10 then (if bt449.1 = (wrap64 (t444 + 1)) then (if bt449.2 = 1 then (some true) else (some false)) else (some false)) else (if bt449.1 = t444 then (some (bt449.2 == (wrap64 (t445 + 1)))) else (some false))) else (none)) else (none)) else (some false)))) = some r := by rw [if_neg (show ¬ (false = true) by decide)] at H; exact H
                clear H
                have H := H1
                clear H1
                replace H := Option.bind_eq_some_iff.mp H
                obtain ⟨⟨t449, t450⟩, A170, H⟩ := H
                replace H : ((salchowlaw09_awake.f kj11).bind fun t451 => (if t451 = true then (if 0 ≤ a1 then (if a1 < (a0.size : Int) then (if (bt a0 a1) = 10 then (if t449 = (wrap64 (t444 + 1)) then (if t450 = 1 then (some true) else (some false)) else (some false)) else (if t449 = t444 then (some (t450 == (wrap64 (t445 + 1)))) else (some false))) else (none)) else (none)) else (some false))) = some r := H
                have A17 := Aside0.mk A170
                clear A170
                replace H := Option.bind_eq_some_iff.mp H
                obtain ⟨t451, A180, H⟩ := H
                replace H : (if t451 = true then (if 0 ≤ a1 then (if a1 < (a0.size : Int) then (if (bt a0 a1) = 10 then (if t449 = (wrap64 (t444 + 1)) then (if t450 = 1 then (some true) else (some false)) else (some false)) else (if t449 = t444 then (some (t450 == (wrap64 (t445 + 1)))) else (some false))) else (none)) else (none)) else (some false)) = some r := H
                have A18 := Aside0.mk A180
                clear A180
                by_cases c19 : t451 = true
                · subst c19
                  have H1 : (if 0 ≤ a1 then (if a1 < (a0.size : Int) then (if (bt a0 a1) = 10 then (if t449 = (wrap64 (t444 + 1)) then (if t450 = 1 then (some true) else (some false)) else (some false)) else (if t449 = t444 then (some (t450 == (wrap64 (t445 + 1)))) else (some false))) else (none)) else (none)) = some r := by rw [if_pos rfl] at H; exact H
                  clear H
                  have H := H1
                  clear H1
                  by_cases c20 : 0 ≤ a1
                  · rw [if_pos c20] at H
                    have c20b0 : decide (0 ≤ a1) = true := decide_eq_true c20
                    clear c20
                    by_cases c21 : a1 < (a0.size : Int)
                    · rw [if_pos c21] at H
                      have c21b0 : decide (a1 < (a0.size : Int)) = true := decide_eq_true c21
                      clear c21
                      by_cases c23 : (bt a0 a1) = 10
                      · rw [if_pos c23] at H
                        have c23b0 : ((bt a0 a1) == 10) = true := beq_iff_eq.mpr c23
                        have c23b1 : ((bt a0 a1) != 10) = false := bne_eq_false_iff_eq.mpr c23
                        clear c23
                        by_cases c24 : t449 = (wrap64 (t444 + 1))
                        · rw [if_pos c24] at H
                          have c24b0 : (t449 == (wrap64 (t444 + 1))) = true := beq_iff_eq.mpr c24
                          have c24b1 : (t449 != (wrap64 (t444 + 1))) = false := bne_eq_false_iff_eq.mpr c24
                          clear c24
                          by_cases c25 : t450 = 1
                          · rw [if_pos c25] at H
                            have c25b0 : (t450 == 1) = true := beq_iff_eq.mpr c25
                            have c25b1 : (t450 != 1) = false := bne_eq_false_iff_eq.mpr c25
                            clear c25
                            obtain rfl := Option.some.inj H
                            go_wp2_with (first | ((with_reducible refine gate_callee (f := 39) rfl ?_); refine goesL_ (some 48) rfl rfl Tryd.func39 (by kernel_rfl) rfl #[.string a0, .int .i64 (wrap64 (a1 + 1))] rfl (by (try simp only [List.map_toArray, List.map_cons, List.map_nil]); first | done | rfl | (simp only [List.length_drop, List.length_take]; rfl)) ?_; (with_reducible refine (lexer_Place.calls a0 (wrap64 (a1 + 1)) t449 t450 _ A17.out).mono ?_); rintro e w26 ⟨rfl, hb⟩; refine ⟨_, rfl, ?_⟩; have n0_ := Aside0.mk (below_step (bl_ HB.out) hb); clear HB; have HB := n0_; clear n0_; (try clear hb); (try clear hb2); (try clear hk); (try clear hi)) | ((with_reducible refine gate_callee (f := 32) rfl ?_); refine goesL_ (some 51) rfl rfl Tryd.func32 (by kernel_rfl) rfl #[] rfl (by (try simp only [List.map_toArray, List.map_cons, List.map_nil]); first | done | rfl | (simp only [List.length_drop, List.length_take]; rfl)) ?_; (with_reducible refine (salchowlaw09_awake.calls kj11  true _ ?side1 A18.out).mono ?_); (case side1 => exact Gl.below hG (bl_ HB.out)); rintro e w27 ⟨rfl, hb⟩; refine ⟨_, rfl, ?_⟩; have n0_ := Aside0.mk (below_step (bl_ HB.out) hb); clear HB; have HB := n0_; clear n0_; (try clear hb); (try clear hb2); (try clear hk); (try clear hi); have p22 : 0 ≤ (a1 : Int) := of_decide_eq_true (by first | (with_reducible assumption) | assumption); have q22 : a1 < (a0.size : Int) := of_decide_eq_true (by first | (with_reducible assumption) | assumption); have hx22 := bt_at a0 a1; replace p22 := eq_true p22; replace q22 := eq_true q22))
                            go_ret
                            exact ⟨er_, bl_ HB.out⟩
                          · rw [if_neg c25] at H
                            have c25b0 : (t450 == 1) = false := beq_eq_false_iff_ne.mpr c25
                            have c25b1 : (t450 != 1) = true := bne_iff_ne.mpr c25
                            obtain rfl := Option.some.inj H
                            go_wp2_with (first | ((with_reducible refine gate_callee (f := 39) rfl ?_); refine goesL_ (some 48) rfl rfl Tryd.func39 (by kernel_rfl) rfl #[.string a0, .int .i64 (wrap64 (a1 + 1))] rfl (by (try simp only [List.map_toArray, List.map_cons, List.map_nil]); first | done | rfl | (simp only [List.length_drop, List.length_take]; rfl)) ?_; (with_reducible refine (lexer_Place.calls a0 (wrap64 (a1 + 1)) t449 t450 _ A17.out).mono ?_); rintro e w29 ⟨rfl, hb⟩; refine ⟨_, rfl, ?_⟩; have n0_ := Aside0.mk (below_step (bl_ HB.out) hb); clear HB; have HB := n0_; clear n0_; (try clear hb); (try clear hb2); (try clear hk); (try clear hi)) | ((with_reducible refine gate_callee (f := 32) rfl ?_); refine goesL_ (some 51) rfl rfl Tryd.func32 (by kernel_rfl) rfl #[] rfl (by (try simp only [List.map_toArray, List.map_cons, List.map_nil]); first | done | rfl | (simp only [List.length_drop, List.length_take]; rfl)) ?_; (with_reducible refine (salchowlaw09_awake.calls kj11  true _ ?side1 A18.out).mono ?_); (case side1 => exact Gl.below hG (bl_ HB.out)); rintro e w30 ⟨rfl, hb⟩; refine ⟨_, rfl, ?_⟩; have n0_ := Aside0.mk (below_step (bl_ HB.out) hb); clear HB; have HB := n0_; clear n0_; (try clear hb); (try clear hb2); (try clear hk); (try clear hi); have p22 : 0 ≤ (a1 : Int) := of_decide_eq_true (by first | (with_reducible assumption) | assumption); have q22 : a1 < (a0.size : Int) := of_decide_eq_true (by first | (with_reducible assumption) | assumption); have hx22 := bt_at a0 a1; replace p22 := eq_true p22; replace q22 := eq_true q22; have p28 : 0 ≤ (a1 : Int) := of_decide_eq_true (by first | (with_reducible assumption) | assumption); have q28 : a1 < (a0.size : Int) := of_decide_eq_true (by first | (with_reducible assumption) | assumption); have hx28 := bt_at a0 a1; replace p28 := eq_true p28; replace q28 := eq_true q28))
                            go_ret
                            exact ⟨er_, bl_ HB.out⟩
                        · rw [if_neg c24] at H
                          have c24b0 : (t449 == (wrap64 (t444 + 1))) = false := beq_eq_false_iff_ne.mpr c24
                          have c24b1 : (t449 != (wrap64 (t444 + 1))) = true := bne_iff_ne.mpr c24
                          obtain rfl := Option.some.inj H
                          go_wp2_with (first | ((with_reducible refine gate_callee (f := 39) rfl ?_); refine goesL_ (some 48) rfl rfl Tryd.func39 (by kernel_rfl) rfl #[.string a0, .int .i64 (wrap64 (a1 + 1))] rfl (by (try simp only [List.map_toArray, List.map_cons, List.map_nil]); first | done | rfl | (simp only [List.length_drop, List.length_take]; rfl)) ?_; (with_reducible refine (lexer_Place.calls a0 (wrap64 (a1 + 1)) t449 t450 _ A17.out).mono ?_); rintro e w32 ⟨rfl, hb⟩; refine ⟨_, rfl, ?_⟩; have n0_ := Aside0.mk (below_step (bl_ HB.out) hb); clear HB; have HB := n0_; clear n0_; (try clear hb); (try clear hb2); (try clear hk); (try clear hi)) | ((with_reducible refine gate_callee (f := 32) rfl ?_); refine goesL_ (some 51) rfl rfl Tryd.func32 (by kernel_rfl) rfl #[] rfl (by (try simp only [List.map_toArray, List.map_cons, List.map_nil]); first | done | rfl | (simp only [List.length_drop, List.length_take]; rfl)) ?_; (with_reducible refine (salchowlaw09_awake.calls kj11  true _ ?side1 A18.out).mono ?_); (case side1 => exact Gl.below hG (bl_ HB.out)); rintro e w33 ⟨rfl, hb⟩; refine ⟨_, rfl, ?_⟩; have n0_ := Aside0.mk (below_step (bl_ HB.out) hb); clear HB; have HB := n0_; clear n0_; (try clear hb); (try clear hb2); (try clear hk); (try clear hi); have p22 : 0 ≤ (a1 : Int) := of_decide_eq_true (by first | (with_reducible assumption) | assumption); have q22 : a1 < (a0.size : Int) := of_decide_eq_true (by first | (with_reducible assumption) | assumption); have hx22 := bt_at a0 a1; replace p22 := eq_true p22; replace q22 := eq_true q22; have p31 : 0 ≤ (a1 : Int) := of_decide_eq_true (by first | (with_reducible assumption) | assumption); have q31 : a1 < (a0.size : Int) := of_decide_eq_true (by first | (with_reducible assumption) | assumption); have hx31 := bt_at a0 a1; replace p31 := eq_true p31; replace q31 := eq_true q31))
                          go_ret
                          exact ⟨er_, bl_ HB.out⟩
                      · rw [if_neg c23] at H
                        have c23b0 : ((bt a0 a1) == 10) = false := beq_eq_false_iff_ne.mpr c23
                        have c23b1 : ((bt a0 a1) != 10) = true := bne_iff_ne.mpr c23
                        by_cases c35 : t449 = t444
                        · rw [if_pos c35] at H
                          have c35b0 : (t449 == t444) = true := beq_iff_eq.mpr c35
                          have c35b1 : (t449 != t444) = false := bne_eq_false_iff_eq.mpr c35
                          clear c35
                          obtain rfl := Option.some.inj H
                          go_wp2_with (first | ((with_reducible refine gate_callee (f := 39) rfl ?_); refine goesL_ (some 48) rfl rfl Tryd.func39 (by kernel_rfl) rfl #[.string a0, .int .i64 (wrap64 (a1 + 1))] rfl (by (try simp only [List.map_toArray, List.map_cons, List.map_nil]); first | done | rfl | (simp only [List.length_drop, List.length_take]; rfl)) ?_; (with_reducible refine (lexer_Place.calls a0 (wrap64 (a1 + 1)) t449 t450 _ A17.out).mono ?_); rintro e w36 ⟨rfl, hb⟩; refine ⟨_, rfl, ?_⟩; have n0_ := Aside0.mk (below_step (bl_ HB.out) hb); clear HB; have HB := n0_; clear n0_; (try clear hb); (try clear hb2); (try clear hk); (try clear hi)) | ((with_reducible refine gate_callee (f := 32) rfl ?_); refine goesL_ (some 51) rfl rfl Tryd.func32 (by kernel_rfl) rfl #[] rfl (by (try simp only [List.map_toArray, List.map_cons, List.map_nil]); first | done | rfl | (simp only [List.length_drop, List.length_take]; rfl)) ?_; (with_reducible refine (salchowlaw09_awake.calls kj11  true _ ?side1 A18.out).mono ?_); (case side1 => exact Gl.below hG (bl_ HB.out)); rintro e w37 ⟨rfl, hb⟩; refine ⟨_, rfl, ?_⟩; have n0_ := Aside0.mk (below_step (bl_ HB.out) hb); clear HB; have HB := n0_; clear n0_; (try clear hb); (try clear hb2); (try clear hk); (try clear hi); have p22 : 0 ≤ (a1 : Int) := of_decide_eq_true (by first | (with_reducible assumption) | assumption); have q22 : a1 < (a0.size : Int) := of_decide_eq_true (by first | (with_reducible assumption) | assumption); have hx22 := bt_at a0 a1; replace p22 := eq_true p22; replace q22 := eq_true q22; have p34 : 0 ≤ (a1 : Int) := of_decide_eq_true (by first | (with_reducible assumption) | assumption); have q34 : a1 < (a0.size : Int) := of_decide_eq_true (by first | (with_reducible assumption) | assumption); have hx34 := bt_at a0 a1; replace p34 := eq_true p34; replace q34 := eq_true q34))
                          go_ret
                          exact ⟨er_, bl_ HB.out⟩
                        · rw [if_neg c35] at H
                          have c35b0 : (t449 == t444) = false := beq_eq_false_iff_ne.mpr c35
                          have c35b1 : (t449 != t444) = true := bne_iff_ne.mpr c35
                          obtain rfl := Option.some.inj H
                          go_wp2_with (first | ((with_reducible refine gate_callee (f := 39) rfl ?_); refine goesL_ (some 48) rfl rfl Tryd.func39 (by kernel_rfl) rfl #[.string a0, .int .i64 (wrap64 (a1 + 1))] rfl (by (try simp only [List.map_toArray, List.map_cons, List.map_nil]); first | done | rfl | (simp only [List.length_drop, List.length_take]; rfl)) ?_; (with_reducible refine (lexer_Place.calls a0 (wrap64 (a1 + 1)) t449 t450 _ A17.out).mono ?_); rintro e w38 ⟨rfl, hb⟩; refine ⟨_, rfl, ?_⟩; have n0_ := Aside0.mk (below_step (bl_ HB.out) hb); clear HB; have HB := n0_; clear n0_; (try clear hb); (try clear hb2); (try clear hk); (try clear hi)) | ((with_reducible refine gate_callee (f := 32) rfl ?_); refine goesL_ (some 51) rfl rfl Tryd.func32 (by kernel_rfl) rfl #[] rfl (by (try simp only [List.map_toArray, List.map_cons, List.map_nil]); first | done | rfl | (simp only [List.length_drop, List.length_take]; rfl)) ?_; (with_reducible refine (salchowlaw09_awake.calls kj11  true _ ?side1 A18.out).mono ?_); (case side1 => exact Gl.below hG (bl_ HB.out)); rintro e w39 ⟨rfl, hb⟩; refine ⟨_, rfl, ?_⟩; have n0_ := Aside0.mk (below_step (bl_ HB.out) hb); clear HB; have HB := n0_; clear n0_; (try clear hb); (try clear hb2); (try clear hk); (try clear hi); have p22 : 0 ≤ (a1 : Int) := of_decide_eq_true (by first | (with_reducible assumption) | assumption); have q22 : a1 < (a0.size : Int) := of_decide_eq_true (by first | (with_reducible assumption) | assumption); have hx22 := bt_at a0 a1; replace p22 := eq_true p22; replace q22 := eq_true q22; have p34 : 0 ≤ (a1 : Int) := of_decide_eq_true (by first | (with_reducible assumption) | assumption); have q34 : a1 < (a0.size : Int) := of_decide_eq_true (by first | (with_reducible assumption) | assumption); have hx34 := bt_at a0 a1; replace p34 := eq_true p34; replace q34 := eq_true q34))
                          go_ret
                          exact ⟨er_, bl_ HB.out⟩
                    · rw [if_neg c21] at H
                      exact absurd H (by simp)
                  · rw [if_neg c20] at H
                    exact absurd H (by simp)
                · replace c19 := Bool.eq_false_iff.mpr c19
                  subst c19
                  have H1 : (some false) = some r := by rw [if_neg (show ¬ (false = true) by decide)] at H; exact H
                  clear H
                  have H := H1
                  clear H1
                  obtain rfl := Option.some.inj H
                  go_wp2_with (first | ((with_reducible refine gate_callee (f := 39) rfl ?_); refine goesL_ (some 48) rfl rfl Tryd.func39 (by kernel_rfl) rfl #[.string a0, .int .i64 (wrap64 (a1 + 1))] rfl (by (try simp only [List.map_toArray, List.map_cons, List.map_nil]); first | done | rfl | (simp only [List.length_drop, List.length_take]; rfl)) ?_; (with_reducible refine (lexer_Place.calls a0 (wrap64 (a1 + 1)) t449 t450 _ A17.out).mono ?_); rintro e w40 ⟨rfl, hb⟩; refine ⟨_, rfl, ?_⟩; have n0_ := Aside0.mk (below_step (bl_ HB.out) hb); clear HB; have HB := n0_; clear n0_; (try clear hb); (try clear hb2); (try clear hk); (try clear hi)) | ((with_reducible refine gate_callee (f := 32) rfl ?_); refine goesL_ (some 51) rfl rfl Tryd.func32 (by kernel_rfl) rfl #[] rfl (by (try simp only [List.map_toArray, List.map_cons, List.map_nil]); first | done | rfl | (simp only [List.length_drop, List.length_take]; rfl)) ?_; (with_reducible refine (salchowlaw09_awake.calls kj11  false _ ?side1 A18.out).mono ?_); (case side1 => exact Gl.below hG (bl_ HB.out)); rintro e w41 ⟨rfl, hb⟩; refine ⟨_, rfl, ?_⟩; have n0_ := Aside0.mk (below_step (bl_ HB.out) hb); clear HB; have HB := n0_; clear n0_; (try clear hb); (try clear hb2); (try clear hk); (try clear hi)))
                  go_ret
                  exact ⟨er_, bl_ HB.out⟩
/-- THE ONE PURE STATEMENT of salchowlaw09_LexerPlaces: yours. -/
def salchowlaw09_LexerPlaces.Pure : Prop := ∀ (a0 : ByteArray) (a1 : Int), a0.size ≤ 140737488351232 → (Lit.int .i64 a1).wf = true → ∃ k, salchowlaw09_LexerPlaces.f k a0 a1 = some true
theorem salchowlaw09_LexerPlaces.walk (P : salchowlaw09_LexerPlaces.Pure) (a0 : ByteArray) (a1 : Int) (w : World) (hG : Gl w) (w0 : a0.size ≤ 140737488351232) (w1 : (Lit.int .i64 a1).wf = true) :
    Calls Tryd.prog 10 #[.string a0, .int .i64 a1] w fun e w' => e = .returned (.bool true) ∧ Below w.heap.size w w' := by
  obtain ⟨k, h⟩ := P a0 a1 w0 w1
  refine (salchowlaw09_LexerPlaces.calls k a0 a1 true w hG h).mono ?_
  rintro e w' ⟨rfl, hd⟩
  exact ⟨rfl, hd⟩
end Go.Proofs.YtkifdadhojbohaaDoor.Pr
namespace Go.Proofs.YtkifdadhojbohaaDoor.Pu
open Go.RowKit Go.Proofs.YtkifdadhojbohaaDoor Go.Proofs.YtkifdadhojbohaaDoor.Pr Go.Proofs.YtkifdadhojbohaaDoorW.PrintWords Go.Proofs.YtkifdadhojbohaaDoorW.PrintLast Go.Proofs.YtkifdadhojbohaaDoorW.PrintMore
/-- Line and column behind a byte. -/
def posS (p : Nat × Nat) (c : UInt8) : Nat × Nat := if c.toNat = 10 then (p.1 + 1, 1) else (p.1, p.2 + 1)
/-- Line and column behind bytes. -/
def pos (l : List UInt8) : Nat × Nat := l.foldl posS (1, 1)
theorem pos_snoc (l : List UInt8) (c : UInt8) : pos (l ++ [c]) = posS (pos l) c := by simp [pos]
theorem take_snoc {s : ByteArray} {j : Nat} {c : UInt8} (h : (lst s)[j]? = some c) : (lst s).take (j + 1) = (lst s).take j ++ [c] := by
  obtain ⟨hj, he⟩ := List.getElem?_eq_some_iff.1 h
  rw [List.take_succ_eq_append_getElem hj, he]
theorem pos_le : ∀ (j : Nat) (s : ByteArray), j ≤ s.size → (pos ((lst s).take j)).1 ≤ j + 1 ∧ (pos ((lst s).take j)).2 ≤ j + 1 := by
  intro j s
  induction j with
  | zero => intro _; simp [pos]
  | succ j ih =>
    intro hj
    obtain ⟨c, hc, _⟩ := bt_get (s := s) (i := j) (by omega)
    have := ih (by omega)
    rw [take_snoc hc, pos_snoc]
    unfold posS
    split <;> simp <;> omega
theorem lastIdx_congr (s t : ByteArray) (c : Int) : ∀ k : Nat, (∀ i, i < k → s.data[i]! = t.data[i]!) → Lib.lastIdx s c k = Lib.lastIdx t c k
  | 0, _ => rfl
  | k + 1, h => by
    unfold Lib.lastIdx
    rw [h k (by omega), lastIdx_congr s t c k (fun i hi => h i (by omega))]
theorem get_of {s : ByteArray} {i : Nat} {c : UInt8} (h : (lst s)[i]? = some c) : s.data[i]! = c := by
  unfold lst at h
  rw [Array.getElem?_toList] at h
  rw [getElem!_def, h]
theorem ext_get (s : ByteArray) (j i : Nat) (hj : j ≤ s.size) (hi : i < j) : (s.extract 0 j).data[i]! = s.data[i]! := by
  obtain ⟨c, hc, _⟩ := bt_get (s := s) (i := i) (by omega)
  rw [get_of hc]
  apply get_of
  rw [lst_extract, List.drop_zero, List.getElem?_take, if_pos hi, hc]
theorem place_spec (s : ByteArray) : ∀ j : Nat, j ≤ s.size → Lib.countByte ((lst s).take j) 10 + 1 = (pos ((lst s).take j)).1 ∧ (j : Int) - Lib.lastIdx s 10 j = (pos ((lst s).take j)).2 := by
  intro j
  induction j with
  | zero => intro _; simp [pos, Lib.countByte, Lib.lastIdx]
  | succ j ih =>
    intro hj
    obtain ⟨c, hc, _⟩ := bt_get (s := s) (i := j) (by omega)
    obtain ⟨h1, h2⟩ := ih (by omega)
    rw [take_snoc hc, pos_snoc]
    unfold posS
    have hg := get_of hc
    by_cases h10 : c.toNat = 10
    · have h10' : c = 10 := by
        apply UInt8.toNat_inj.1; rw [h10]; rfl
      rw [if_pos h10, Lib.lastIdx_hit _ _ _ (by rw [hg]; omega)]
      refine ⟨?_, by simp; omega⟩
      simp only [Lib.countByte, List.count_append] at h1 ⊢
      rw [h10']
      simp only [List.count_singleton_self]
      omega
    · have h10' : c ≠ 10 := by
        intro e; rw [e] at h10; exact h10 rfl
      rw [if_neg h10, Lib.lastIdx_miss _ _ _ (by rw [hg]; omega)]
      refine ⟨?_, by push_cast; omega⟩
      simp only [Lib.countByte, List.count_append] at h1 ⊢
      rw [List.count_singleton, if_neg (by simpa using h10')]
      omega
/-- The offset, held within the source. -/
def clamp (s : ByteArray) (i : Int) : Nat := (mx 0 (mn i (s.size : Int))).toNat
theorem clamp_nat (s : ByteArray) (j : Nat) (hj : j ≤ s.size) : clamp s j = j := by
  unfold clamp mx mn; (repeat' split) <;> omega
theorem clamp_le (s : ByteArray) (i : Int) : clamp s i ≤ s.size := by
  unfold clamp mx mn; (repeat' split) <;> omega
theorem place_f (s : ByteArray) (hs : s.size ≤ 2000) (i : Int) : lexer_Place.f s i = some (((pos ((lst s).take (clamp s i))).1 : Int), ((pos ((lst s).take (clamp s i))).2 : Int)) := by
  have hcl : (mx 0 (mn i (s.size : Int))) = (clamp s i : Int) := by
    unfold clamp mx mn; (repeat' split) <;> omega
  have hle := clamp_le s i
  unfold lexer_Place.f
  rw [hcl]
  generalize clamp s i = j at hle ⊢
  rw [if_pos (by omega), if_pos (by omega), Int.toNat_natCast]
  have hsz : (s.extract 0 j).size = j := by
    show (lst (s.extract 0 j)).length = j
    rw [lst_extract, List.drop_zero, List.length_take, lst_length]; omega
  obtain ⟨h1, h2⟩ := place_spec s j hle
  obtain ⟨h3, h4⟩ := pos_le j s hle
  unfold strings_Count.f strings_LastIndexByte.f
  rw [if_pos rfl, if_pos (by omega)]
  simp only [Option.bind_some]
  have hd : (s.extract 0 j).data.toList = (lst s).take j := by
    have := lst_extract s 0 j
    rw [List.drop_zero] at this
    exact this
  have hl : Lib.lastIndexByte (s.extract 0 j) 10 = Lib.lastIdx s 10 j := by
    unfold Lib.lastIndexByte
    rw [hsz]
    exact lastIdx_congr _ _ _ _ (fun i hi => ext_get s j i hle hi)
  rw [hl, hd, hsz, wrap64_of (by omega) (by omega), wrap64_of (by omega) (by omega), h2]
  congr 2
  omega
theorem rplace_loop (s : ByteArray) (hs : s.size ≤ 2000) (a : Int) : ∀ (d i : Nat), i ≤ clamp s a → clamp s a - i = d →
    Ev (fun k => salchowref09_Place.l0 k s a ((pos ((lst s).take i)).1 : Int) ((pos ((lst s).take i)).2 : Int) i) (((pos ((lst s).take (clamp s a))).1 : Int), ((pos ((lst s).take (clamp s a))).2 : Int)) := by
  have hcl : (mx 0 (mn a (s.size : Int))) = (clamp s a : Int) := by
    unfold clamp mx mn; (repeat' split) <;> omega
  unfold mx mn at hcl
  have hle := clamp_le s a
  generalize clamp s a = m at hcl hle
  intro d
  induction d with
  | zero =>
    intro i hi hd
    obtain rfl : i = m := by omega
    refine Ev.succ ?_
    simp only [salchowref09_Place.l0]
    by_cases h : (i : Int) < a
    · refine Ev.ifp h (Ev.succ ?_)
      have : decide ((i : Int) < (s.size : Int)) = false := by
        rw [decide_eq_false_iff_not]
        (repeat' split at hcl) <;> omega
      rw [this]
      simp only [salchowref09_Place.j1]
      exact Ev.ifn (by decide) (Ev.now _)
    · refine Ev.ifn h (Ev.succ ?_)
      simp only [salchowref09_Place.j1]
      exact Ev.ifn (by decide) (Ev.now _)
  | succ d ih =>
    intro i hi hd
    have h : (i : Int) < a := by (repeat' split at hcl) <;> omega
    have hi2 : i < s.size := by omega
    obtain ⟨c, hc, hb⟩ := bt_get hi2
    have := ih (i + 1) (by omega) (by omega)
    rw [take_snoc hc, pos_snoc] at this
    obtain ⟨h3, h4⟩ := pos_le i s (by omega)
    refine Ev.succ ?_
    simp only [salchowref09_Place.l0]
    refine Ev.ifp h (Ev.succ ?_)
    rw [decide_eq_true (show (i : Int) < (s.size : Int) by omega)]
    simp only [salchowref09_Place.j1]
    rw [hb, wrap_nat i (by omega), wrap_nat _ (by omega : (pos ((lst s).take i)).1 ≤ 1000000), wrap_nat _ (by omega : (pos ((lst s).take i)).2 ≤ 1000000)]
    refine Ev.ifp (by simp) (Ev.ifp (by omega) (Ev.ifp (by omega) ?_))
    unfold posS at this
    by_cases h10 : c.toNat = 10
    · rw [if_pos h10] at this
      exact Ev.ifp (by omega) this
    · rw [if_neg h10] at this
      exact Ev.ifn (by omega) this
theorem rplace_f (s : ByteArray) (hs : s.size ≤ 2000) (a : Int) : Ev (fun k => salchowref09_Place.f k s a) (((pos ((lst s).take (clamp s a))).1 : Int), ((pos ((lst s).take (clamp s a))).2 : Int)) := by
  unfold salchowref09_Place.f
  exact rplace_loop s hs a _ 0 (by omega) rfl
theorem lexerPlaces : salchowlaw09_LexerPlaces.Pure := by
  intro s i _ _
  apply Ev.rounds
  unfold salchowlaw09_LexerPlaces.f
  by_cases hs : (s.size : Int) > 2000
  · exact Ev.ifp hs (Ev.bind awake_f (Ev.now _))
  · refine Ev.ifn hs (Ev.val (place_f s (by omega) i) (Ev.bind (rplace_f s (by omega) i) (Ev.ifp rfl ?_)))
    rw [show (((pos ((lst s).take (clamp s i))).2 : Int) != ((pos ((lst s).take (clamp s i))).2 : Int)) = false by simp]
    refine Ev.succ ?_
    simp only [salchowlaw09_LexerPlaces.j0]
    have out : ∀ x y, Ev (fun k => salchowlaw09_LexerPlaces.j1 k s i x y true) true := by
      intro x y
      refine Ev.succ ?_
      simp only [salchowlaw09_LexerPlaces.j1]
      exact Ev.ifp (by simp) (Ev.bind awake_f (Ev.now _))
    refine Ev.ifn (by decide) ?_
    by_cases h0 : i < 0
    · exact Ev.ifp h0 (out _ _)
    · refine Ev.ifn h0 ?_
      by_cases h1 : i ≥ (s.size : Int)
      · rw [decide_eq_true h1]; exact out _ _
      · rw [decide_eq_false h1]
        obtain ⟨j, rfl⟩ : ∃ j : Nat, i = (j : Int) := ⟨i.toNat, by omega⟩
        obtain ⟨c, hc, hb⟩ := bt_get (s := s) (i := j) (by omega)
        refine Ev.succ ?_
        simp only [salchowlaw09_LexerPlaces.j1]
        rw [wrap_nat j (by omega), clamp_nat s j (by omega), hb]
        obtain ⟨h3, h4⟩ := pos_le j s (by omega)
        refine Ev.ifn (by decide) (Ev.val (place_f s (by omega) ((j + 1 : Nat) : Int)) (Ev.bind awake_f (Ev.ifp rfl (Ev.ifp (by omega) (Ev.ifp (by omega) ?_)))))
        rw [clamp_nat s (j + 1) (by omega), take_snoc hc, pos_snoc, wrap_nat _ (by omega : (pos ((lst s).take j)).1 ≤ 1000000), wrap_nat _ (by omega : (pos ((lst s).take j)).2 ≤ 1000000)]
        unfold posS
        by_cases h10 : c.toNat = 10
        · rw [if_pos h10]
          exact Ev.ifp (by omega) (Ev.ifp rfl (Ev.ifp rfl (Ev.now _)))
        · rw [if_neg h10]
          exact Ev.ifn (by omega) (Ev.ifp rfl (Ev.ret (by simp)))
end Go.Proofs.YtkifdadhojbohaaDoor.Pu
namespace Go.Proofs.YtkifdadhojbohaaDoor.lexerPlaces
open Go.ChangeShapes Go.WideShapes Go.ChangeAt Go.RowKit Rk
open Go.ChangeMaps (open_string shut_string)
theorem c09 : (Rows.lexerPlacesRow.inPlace == Tryd.prog.inPlace 10) = true := by kernel_rfl
theorem c10 : (Rows.lexerPlacesRow.unfollowed == Tryd.prog.unfollowed 10) = true := by kernel_rfl
theorem c11 : (Rows.lexerPlacesRow.recurses == Tryd.prog.recurses 10) = true := by kernel_rfl
theorem c12 : (Rows.lexerPlacesRow.named == Tryd.prog.varsNamed 10) = true := by kernel_rfl
theorem facts : joinedFacts Tryd.prog 10 Tryd.f10 Rows.lexerPlacesSpec Rows.lexerPlacesRow = true :=
  facts_of _ _ _ _ _ (by kernel_rfl) out_ rowed_ (by kernel_rfl) (by kernel_rfl) rfl (by kernel_rfl) rfl (by kernel_rfl) c09 c10 c11 c12 (by kernel_rfl) (by kernel_rfl) (by kernel_rfl) (by kernel_rfl) (by kernel_rfl)
    (by kernel_rfl) (by kernel_rfl) (by kernel_rfl) (by kernel_rfl) (by kernel_rfl) (by kernel_rfl) heard_ enter_ (by kernel_rfl) (by kernel_rfl) (by kernel_rfl) (by kernel_rfl) (by kernel_rfl) (by kernel_rfl)
theorem goes : false = Rows.lexerPlacesRow.goesBy Tryd.prog := by kernel_rfl
set_option maxRecDepth 100000 in
theorem lifted (os : Os) (started : os.Started) (H : Type) (enc : TypeId × Value → H) :
    ReturnsInHanded {} Tryd.checked os 10 .any (fun w args => (Rows.lexerPlacesSpec.pre enc Tryd.prog Tryd.f10 [] false w args ∧ laidMetH Tryd.prog laidB w) ∧ sizedMet enc Tryd.prog Tryd.f10 (OpenSpec.ofChange Rows.lexerPlacesSpec) false w args)
      (Rows.lexerPlacesSpec.post enc Tryd.prog Tryd.f10 false true false false) := by
  refine returnsInHanded_of_change_and (C := Tryd.checked) (X := fun w _ => laidMetH Tryd.prog laidB w) (fun _ _ _ hh h => h.of_heap hh) own started (by kernel_rfl) Tryd.func10
    (ChangeSpec.witness_shaped (enc := enc) (C := Tryd.checked) (os := os) (X := fun w _ => laidMetH Tryd.prog laidB w) false (wB os) #[.string ByteArray.empty, .int .i64 0] 8 (World.laidAll_os _ _ _)
      (World.shaped_of_ZipB (by kernel_rfl) (by kernel_rfl)) (by kernel_rfl) (by kernel_rfl) (by kernel_rfl) (met_B os _)) ?_
  intro W base args ds gs before hval0 hW _ hsz0 hL _
  have hsz : (DataW.weightsEach Tryd.prog (Tryd.f10.params.toList ++ Rows.lexerPlacesSpec.plain.varTypes Tryd.prog) (ds ++ gs)).all (· ≤ reachBytes) = true := hsz0
  have hval : ∀ (j : Nat) t v, Tryd.f10.params[j]? = some t → args[j]? = some v → Value.okWide Tryd.prog W .any base t v := hval0
  have hW' := hW
  obtain ⟨p, q, hA0, hV, rfl, _, _⟩ := hW
  have hA : DataW.TrodAll enc Tryd.prog W 0 (fun _ => true) true Tryd.f10.params.toList args.toList ds p := hA0
  rw [Tryd.params10] at hA hval hsz
  obtain ⟨v0, vs0, d0, ds0, p0, q0, hargs, rfl, rfl, h0, r0⟩ := trodAll_cons hA
  obtain ⟨v1, vs1, d1, ds1, p1, q1, rfl, rfl, rfl, h1, r1⟩ := trodAll_cons r0
  obtain ⟨rfl, rfl, rfl⟩ := trodAll_nil r1
  obtain rfl : args = #[v0, v1] := by cases args; simp_all
  obtain ⟨rfl, rfl⟩ := trodVars_none hV
  obtain ⟨a0, rfl, rfl, rfl, y0⟩ := open_string Tryd.underlying9 (hval 0 9 v0 rfl rfl) h0
  have w0 : a0.size ≤ 140737488351232 := by
    have z := sized_string hsz (j := 0) (t := 9) rfl rfl
    rw [Array.length_toList] at z
    exact z
  obtain ⟨a1, rfl, rfl, rfl, w1⟩ := open_int Tryd.underlying3 (hval 1 3 v1 rfl rfl) h1
  clear hA0 hval0 hsz0 hsz
  refine (Pr.salchowlaw09_LexerPlaces.walk Pu.lexerPlaces a0 a1 W (gl_B hL) w0 w1).mono fun e W' ⟨he, bel⟩ => ?_
  subst he
  exact ⟨_, rfl, _, _, _, [], _, [], hW', trodAll_mk1 (shut_bool Tryd.underlying4 _), (trodAll_cons_mk (shut_string Tryd.underlying9 y0) (trodAll_cons_mk (shut_int Tryd.underlying3 w1) trodAll_mk0)), rfl, bel.frame _, fun h => by cases h⟩
theorem over : Rows.lexerPlacesRow.holds Tryd.pinned (OpenSpec.ofChange Rows.lexerPlacesSpec) :=
  OpenClaim.holds_of_wide 10 Tryd.f10 rfl rfl rfl rfl rfl rfl rfl ⟨rfl, rfl, rfl, rfl, rfl⟩ rfl rfl rfl rfl rfl (by kernel_rfl) Tryd.func10 facts
    (of_decide_eq_true (by kernel_rfl)) (by unfold Func.isWrapper; first | (rw [if_pos (by decide +kernel)]; kernel_rfl) | (rw [if_neg (by decide +kernel)]; exact ⟨rfl, rfl⟩))
    (fun os started H enc _ => lifted os started H enc)
theorem card : Rows.LexerPlacesCardSaid :=
  Claim7.holds_tied_plain_at .later [] [.data, .data, .data, .data, .sentinel, .sentinel, .pinned] true (true, "74d2011260c70b611c86c4d3b7f5d11cc5fefff18c715f175ff3522b41f9dd0c") true
    over (fun _ h => by cases h) (by kernel_rfl) (fun _ h => by cases h) lexerPlaces_row_tie rfl ⟨rfl, rfl⟩ mainIs_ rfl
    (fun f fn hf hfn => by
      obtain rfl : f = 10 := Option.some.inj ((show Tryd.prog.funcNamed "salchow/salchowlaw09.LexerPlaces" = some 10 by kernel_rfl).symm.trans hf) |>.symm
      obtain rfl : fn = Tryd.f10 := (Option.some.inj (Tryd.func10.symm.trans hfn)).symm
      exact ⟨looks_, fun j t ht => by
        rw [Tryd.params10] at ht
        have hm : t ∈ [9, 3] := by simpa using Array.mem_of_getElem? ht
        have hall : ([9, 3].all fun u => !Tryd.prog.wantsStandIn u) = true := by kernel_rfl
        exact (show Tryd.prog.wantsStandIn t = false by simpa using List.all_eq_true.1 hall t hm)⟩)
    goes
#print axioms card
end Go.Proofs.YtkifdadhojbohaaDoor.lexerPlaces
