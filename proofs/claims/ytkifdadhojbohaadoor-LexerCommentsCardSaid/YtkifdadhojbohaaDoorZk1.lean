/- Joined out of the texts of this proof that bear the names PrF11 PuJ RowLexerComments: what each shows stands over it there. -/
import Derived.Test.YtkifdadhojbohaaDoorZb1
import Derived.Test.YtkifdadhojbohaaDoorZc2
import Derived.Test.YtkifdadhojbohaaDoorZa1
import Derived.Test.YtkifdadhojbohaaDoorZs1
import Derived.Test.YtkifdadhojbohaaDoorZr1
import Derived.Test.YtkifdadhojbohaaDoorCards
import Derived.Test.YtkifdadhojbohaaDoorTie
import Derived.WalkKit
import Derived.OpenShut
import Derived.ShutString
import Derived.ChangeOld
import Derived.SizedLaws
import Derived.SevenTiedAt
import Derived.Handed
import Derived.LaidLaws
set_option linter.unusedVariables false
set_option linter.unusedSimpArgs false
namespace Go.Proofs.YtkifdadhojbohaaDoor.Pr
open Go.Proofs.YtkifdadhojbohaaDoor
open Go.RowKit Go.Proofs.YtkifdadhojbohaaDoorW.PrintWords Go.Proofs.YtkifdadhojbohaaDoorW.PrintLast Go.Proofs.YtkifdadhojbohaaDoorW.PrintMore
attribute [local go_sem] max2_int min2_int max_two min_two max_three min_three max_four min_four   -- for this text's walks alone
set_option linter.unusedVariables false
set_option linter.unusedSimpArgs false
/-! ### salchowlaw09_LexerComments: function 11 -/
mutual
def salchowlaw09_LexerComments.j0 : Nat → ByteArray → ByteArray → Bool → Option (Bool)
  | 0, _, _, _ => none
  | k + 1, x0, x1, x18 => if x18 = true then ((salchowlaw09_awake.f k).bind fun t452 => (some t452)) else (salchowlaw09_LexerComments.l0 k x0 x1 0)
def salchowlaw09_LexerComments.l0 : Nat → ByteArray → ByteArray → Int → Option (Bool)
  | 0, _, _, _ => none
  | k + 1, x0, x1, x5 => if x5 < (x1.size : Int) then (if 0 ≤ x5 then (if (bt x1 x5) = 10 then ((salchowlaw09_awake.f k).bind fun t453 => (some t453)) else (salchowlaw09_LexerComments.l0 k x0 x1 (wrap64 (x5 + 1)))) else (none)) else (if 1 + x1.size ≤ 9223372036854775807 then (if ((⟨#[35]⟩ : ByteArray) ++ x1).size + 5 ≤ 9223372036854775807 then ((lexer_Lex.f k x0).bind fun bt454 => (if (((⟨#[35]⟩ : ByteArray) ++ x1) ++ (⟨#[10, 32, 9, 13, 10]⟩ : ByteArray)).size + x0.size ≤ 9223372036854775807 then ((lexer_Lex.f k ((((⟨#[35]⟩ : ByteArray) ++ x1) ++ (⟨#[10, 32, 9, 13, 10]⟩ : ByteArray)) ++ x0)).bind fun bt460 => (if bt454.2.1 = bt460.2.1 then (if bt454.2.1 = 0 then (salchowlaw09_LexerComments.j2 k bt454.1 bt460.1 false) else (if bt454.2.1 = 6 then (salchowlaw09_LexerComments.j2 k bt454.1 bt460.1 false) else (salchowlaw09_LexerComments.j2 k bt454.1 bt460.1 (bt460.2.2 != (wrap64 (bt454.2.2 + ((((⟨#[35]⟩ : ByteArray) ++ x1) ++ (⟨#[10, 32, 9, 13, 10]⟩ : ByteArray)).size : Int))))))) else (salchowlaw09_LexerComments.j2 k bt454.1 bt460.1 true))) else (none))) else (none)) else (none))
def salchowlaw09_LexerComments.j2 : Nat → List (S46) → List (S46) → Bool → Option (Bool)
  | 0, _, _, _ => none
  | k + 1, x7, x9, x70 => if x70 = true then (some false) else ((salchowlaw09_awake.f k).bind fun t466 => (if t466 = true then ((salchowref09_Same.f k x7 x9 false).bind fun t467 => (some t467)) else (some false)))
end
def salchowlaw09_LexerComments.f (k : Nat) (a0 : ByteArray) (a1 : ByteArray) : Option (Bool) := if (a0.size : Int) > 2000 then (salchowlaw09_LexerComments.j0 k a0 a1 true) else (salchowlaw09_LexerComments.j0 k a0 a1 (decide ((a1.size : Int) > 200)))
theorem salchowlaw09_LexerComments.mono_l : ∀ k, (∀ y0 y1 y2, LeO (salchowlaw09_LexerComments.j0 k y0 y1 y2) (salchowlaw09_LexerComments.j0 (k + 1) y0 y1 y2)) ∧ (∀ y0 y1 y2, LeO (salchowlaw09_LexerComments.l0 k y0 y1 y2) (salchowlaw09_LexerComments.l0 (k + 1) y0 y1 y2)) ∧ (∀ y0 y1 y2, LeO (salchowlaw09_LexerComments.j2 k y0 y1 y2) (salchowlaw09_LexerComments.j2 (k + 1) y0 y1 y2))
  | 0 => ⟨fun _ _ _ r h => by simp [salchowlaw09_LexerComments.j0] at h, fun _ _ _ r h => by simp [salchowlaw09_LexerComments.l0] at h, fun _ _ _ r h => by simp [salchowlaw09_LexerComments.j2] at h⟩
  | k + 1 => by
    obtain ⟨ih0, ih1, ih2⟩ := salchowlaw09_LexerComments.mono_l k
    refine ⟨?_, ?_, ?_⟩
    · intro y0 y1 y2
      unfold salchowlaw09_LexerComments.j0
      repeat' first
      | (with_reducible exact ih0 _ _ _)
      | (with_reducible exact ih1 _ _ _)
      | (with_reducible exact ih2 _ _ _)
      | (with_reducible exact lexer_Lex.mono _ _)
      | (with_reducible exact salchowlaw09_awake.mono _)
      | (with_reducible exact salchowref09_Same.mono _ _ _ _)
      | (with_reducible exact LeO.refl _)
      | (with_reducible exact LeO.none _)
      | (with_reducible refine LeO.ite ?_ ?_)
      | (with_reducible refine LeO.bind ?_ (fun _ => ?_))
      | exact ih0 _ _ _
      | exact ih1 _ _ _
      | exact ih2 _ _ _
      | exact lexer_Lex.mono _ _
      | exact salchowlaw09_awake.mono _
      | exact salchowref09_Same.mono _ _ _ _
      | exact LeO.none _
      | refine LeO.ite ?_ ?_
      | refine LeO.bind ?_ (fun _ => ?_)
    · intro y0 y1 y2
      unfold salchowlaw09_LexerComments.l0
      repeat' first
      | (with_reducible exact ih0 _ _ _)
      | (with_reducible exact ih1 _ _ _)
      | (with_reducible exact ih2 _ _ _)
      | (with_reducible exact lexer_Lex.mono _ _)
      | (with_reducible exact salchowlaw09_awake.mono _)
      | (with_reducible exact salchowref09_Same.mono _ _ _ _)
      | (with_reducible exact LeO.refl _)
      | (with_reducible exact LeO.none _)
      | (with_reducible refine LeO.ite ?_ ?_)
      | (with_reducible refine LeO.bind ?_ (fun _ => ?_))
      | exact ih0 _ _ _
      | exact ih1 _ _ _
      | exact ih2 _ _ _
      | exact lexer_Lex.mono _ _
      | exact salchowlaw09_awake.mono _
      | exact salchowref09_Same.mono _ _ _ _
      | exact LeO.none _
      | refine LeO.ite ?_ ?_
      | refine LeO.bind ?_ (fun _ => ?_)
    · intro y0 y1 y2
      unfold salchowlaw09_LexerComments.j2
      repeat' first
      | (with_reducible exact ih0 _ _ _)
      | (with_reducible exact ih1 _ _ _)
      | (with_reducible exact ih2 _ _ _)
      | (with_reducible exact lexer_Lex.mono _ _)
      | (with_reducible exact salchowlaw09_awake.mono _)
      | (with_reducible exact salchowref09_Same.mono _ _ _ _)
      | (with_reducible exact LeO.refl _)
      | (with_reducible exact LeO.none _)
      | (with_reducible refine LeO.ite ?_ ?_)
      | (with_reducible refine LeO.bind ?_ (fun _ => ?_))
      | exact ih0 _ _ _
      | exact ih1 _ _ _
      | exact ih2 _ _ _
      | exact lexer_Lex.mono _ _
      | exact salchowlaw09_awake.mono _
      | exact salchowref09_Same.mono _ _ _ _
      | exact LeO.none _
      | refine LeO.ite ?_ ?_
      | refine LeO.bind ?_ (fun _ => ?_)
theorem salchowlaw09_LexerComments.mono : ∀ a0 a1 k, LeO (salchowlaw09_LexerComments.f k a0 a1) (salchowlaw09_LexerComments.f (k + 1) a0 a1) := by
  intro a0 a1 k
  obtain ⟨ih0, ih1, ih2⟩ := salchowlaw09_LexerComments.mono_l k
  unfold salchowlaw09_LexerComments.f
  repeat' first
      | (with_reducible exact ih0 _ _ _)
      | (with_reducible exact ih1 _ _ _)
      | (with_reducible exact ih2 _ _ _)
      | (with_reducible exact lexer_Lex.mono _ _)
      | (with_reducible exact salchowlaw09_awake.mono _)
      | (with_reducible exact salchowref09_Same.mono _ _ _ _)
      | (with_reducible exact LeO.refl _)
      | (with_reducible exact LeO.none _)
      | (with_reducible refine LeO.ite ?_ ?_)
      | (with_reducible refine LeO.bind ?_ (fun _ => ?_))
      | exact ih0 _ _ _
      | exact ih1 _ _ _
      | exact ih2 _ _ _
      | exact lexer_Lex.mono _ _
      | exact salchowlaw09_awake.mono _
      | exact salchowref09_Same.mono _ _ _ _
      | exact LeO.none _
      | refine LeO.ite ?_ ?_
      | refine LeO.bind ?_ (fun _ => ?_)
set_option maxHeartbeats 8000000 in
set_option maxRecDepth 100000 in
theorem salchowlaw09_LexerComments.calls (k : Nat) (a0 : ByteArray) (a1 : ByteArray) (r : Bool) (w : World) (hG : Gl w) (h : salchowlaw09_LexerComments.f k a0 a1 = some r) :
    Calls Tryd.prog 11 #[.string a0, .string a1] w fun e w' => e = .returned (.bool r) ∧ Below w.heap.size w w' := by
  have hu26 := Tryd.underlying26
  have HB := Aside0.mk (Below.refl w.heap.size w)
  have H : (if (a0.size : Int) > 2000 then (salchowlaw09_LexerComments.j0 k a0 a1 true) else (salchowlaw09_LexerComments.j0 k a0 a1 (decide ((a1.size : Int) > 200)))) = some r := h
  clear h
  have HC3 := Aside0.mk H
  clear H
  go_enter Tryd.func11, Tryd.ntmps11
  go_upto_region 1 with (fail)
  go_cut [18] (fun v18 wc => ∃ (kq : Nat) (x18_2 : Bool), v18 = .bool x18_2 ∧ Aside0 (salchowlaw09_LexerComments.j0 kq a0 a1 x18_2 = some r) ∧ Aside0 (kq ≤ k) ∧ Aside0 (Below w.heap.size w wc))
  case first =>
    have H := HC3.out
    clear HC3
    by_cases c4 : (a0.size : Int) > 2000
    · rw [if_pos c4] at H
      have c4b0 : decide (2000 < (a0.size : Int)) = true := decide_eq_true c4
      have c4b1 : decide (2000 < a0.size) = true := decide_eq_true (by omega)
      clear c4
      (first | rw [c4b0] | (simp only [i64_w, i32_w]; rw [c4b0]) | skip)
      have H' := Aside0.mk H
      clear H
      go_wp2
      go_meet
      case rel => exact ⟨_, (true), (by first | rfl | (simp; done) | (simp [*]; done) | (simp <;> rfl)), H', ⟨by first | omega | exact Nat.le_refl _⟩, ⟨bl_ HB.out⟩⟩
    · rw [if_neg c4] at H
      have c4b0 : decide (2000 < (a0.size : Int)) = false := decide_eq_false c4
      have c4b1 : decide (2000 < a0.size) = false := decide_eq_false (by omega)
      clear c4
      (first | rw [c4b0] | (simp only [i64_w, i32_w]; rw [c4b0]) | skip)
      have H' := Aside0.mk H
      clear H
      go_wp2
      go_meet
      case rel => exact ⟨_, (decide ((a1.size : Int) > 200)), (by first | rfl | (simp; done) | (simp [*]; done) | (simp <;> rfl)), H', ⟨by first | omega | exact Nat.le_refl _⟩, ⟨bl_ HB.out⟩⟩
  case rest =>
    clear HC3
    try clear c1
    try clear p2
    try clear c4
    try clear c4b0
    try clear c4b1
    obtain ⟨kq, x18_2, rfl, HA, HJ2, HB⟩ := hcut
    cases kq with
    | zero => exact absurd HA.out (by simp [salchowlaw09_LexerComments.j0])
    | succ kj2 =>
      have H := HA.out
      clear HA
      simp only [salchowlaw09_LexerComments.j0] at H
      by_cases c5 : x18_2 = true
      · subst c5
        have H1 : ((salchowlaw09_awake.f kj2).bind fun t452 => (some t452)) = some r := by rw [if_pos rfl] at H; exact H
        clear H
        have H := H1
        clear H1
        replace H := Option.bind_eq_some_iff.mp H
        obtain ⟨t452, A60, H⟩ := H
        replace H : (some t452) = some r := H
        have A6 := Aside0.mk A60
        clear A60
        obtain rfl := Option.some.inj H
        go_wp2_with (first | ((with_reducible refine gate_callee (f := 32) rfl ?_); refine goesL_ (some 19) rfl rfl Tryd.func32 (by kernel_rfl) rfl #[] rfl (by (try simp only [List.map_toArray, List.map_cons, List.map_nil]); first | done | rfl | (simp only [List.length_drop, List.length_take]; rfl)) ?_; (with_reducible refine (salchowlaw09_awake.calls kj2  t452 _ ?side1 A6.out).mono ?_); (case side1 => exact Gl.below hG (bl_ HB.out)); rintro e w7 ⟨rfl, hb⟩; refine ⟨_, rfl, ?_⟩; have n0_ := Aside0.mk (below_step (bl_ HB.out) hb); clear HB; have HB := n0_; clear n0_; (try clear hb); (try clear hb2); (try clear hk); (try clear hi)))
        go_ret
        exact ⟨er_, bl_ HB.out⟩
      · replace c5 := Bool.eq_false_iff.mpr c5
        subst c5
        have H1 : (salchowlaw09_LexerComments.l0 kj2 a0 a1 0) = some r := by rw [if_neg (show ¬ (false = true) by decide)] at H; exact H
        clear H
        have H := H1
        clear H1
        have H' := Aside0.mk H
        clear H
        go_wp2
        go_loopg [5] kj2 (fun kq v5 w' => ∃ (x5_2 : Int), v5 = .int .i64 x5_2 ∧ Aside0 (salchowlaw09_LexerComments.l0 kq a0 a1 x5_2 = some r) ∧ Aside0 (kq ≤ kj2) ∧ Aside0 (Below w.heap.size w w'))
        case atStart => exact ⟨(0), (by first | rfl | (simp; done) | (simp [*]; done) | (simp <;> rfl)), H', ⟨Nat.le_refl _⟩, ⟨bl_ HB.out⟩⟩
        case round =>
          clear H'
          try clear c1
          try clear p2
          try clear c3
          try clear c4
          try clear c4b0
          try clear c4b1
          try clear c5
          try clear p2
          obtain ⟨x5_2, rfl, HA, HK2, HB⟩ := hrel
          cases gk with
          | zero => exact absurd HA.out (by simp [salchowlaw09_LexerComments.l0])
          | succ k2 =>
            have H := HA.out
            clear HA
            simp only [salchowlaw09_LexerComments.l0] at H
            by_cases c8 : x5_2 < (a1.size : Int)
            · rw [if_pos c8] at H
              have c8b0 : decide (x5_2 < (a1.size : Int)) = true := decide_eq_true c8
              clear c8
              by_cases c9 : 0 ≤ x5_2
              · rw [if_pos c9] at H
                have c9b0 : decide (0 ≤ x5_2) = true := decide_eq_true c9
                clear c9
                by_cases c11 : (bt a1 x5_2) = 10
                · rw [if_pos c11] at H
                  have c11b0 : ((bt a1 x5_2) == 10) = true := beq_iff_eq.mpr c11
                  have c11b1 : ((bt a1 x5_2) != 10) = false := bne_eq_false_iff_eq.mpr c11
                  clear c11
                  replace H := Option.bind_eq_some_iff.mp H
                  obtain ⟨t453, A120, H⟩ := H
                  replace H : (some t453) = some r := H
                  have A12 := Aside0.mk A120
                  clear A120
                  obtain rfl := Option.some.inj H
                  have p10 : 0 ≤ (x5_2 : Int) := of_decide_eq_true (by first | (with_reducible assumption) | assumption)
                  have q10 : x5_2 < (a1.size : Int) := of_decide_eq_true (by first | (with_reducible assumption) | assumption)
                  have hx10 := bt_at a1 x5_2
                  replace p10 := eq_true p10
                  replace q10 := eq_true q10
                  go_wp2_with (first | ((with_reducible refine gate_callee (f := 32) rfl ?_); refine goesL_ (some 30) rfl rfl Tryd.func32 (by kernel_rfl) rfl #[] rfl (by (try simp only [List.map_toArray, List.map_cons, List.map_nil]); first | done | rfl | (simp only [List.length_drop, List.length_take]; rfl)) ?_; (with_reducible refine (salchowlaw09_awake.calls k2  t453 _ ?side1 A12.out).mono ?_); (case side1 => exact Gl.below hG (bl_ HB.out)); rintro e w13 ⟨rfl, hb⟩; refine ⟨_, rfl, ?_⟩; have n0_ := Aside0.mk (below_step (bl_ HB.out) hb); clear HB; have HB := n0_; clear n0_; (try clear hb); (try clear hb2); (try clear hk); (try clear hi)))
                  go_ret
                  exact ⟨er_, bl_ HB.out⟩
                · rw [if_neg c11] at H
                  have c11b0 : ((bt a1 x5_2) == 10) = false := beq_eq_false_iff_ne.mpr c11
                  have c11b1 : ((bt a1 x5_2) != 10) = true := bne_iff_ne.mpr c11
                  have H' := Aside0.mk H
                  clear H
                  have p10 : 0 ≤ (x5_2 : Int) := of_decide_eq_true (by first | (with_reducible assumption) | assumption)
                  have q10 : x5_2 < (a1.size : Int) := of_decide_eq_true (by first | (with_reducible assumption) | assumption)
                  have hx10 := bt_at a1 x5_2
                  replace p10 := eq_true p10
                  replace q10 := eq_true q10
                  go_wp2
                  go_roundg k2
                  case measure => have := HJ2.out; have := HK2.out; omega
                  case rel => exact ⟨(wrap64 (x5_2 + 1)), (by first | rfl | (simp; done) | (simp [*]; done) | (simp <;> rfl)), H', ⟨by have := HJ2.out; have := HK2.out; omega⟩, ⟨bl_ HB.out⟩⟩
              · rw [if_neg c9] at H
                exact absurd H (by simp)
            · rw [if_neg c8] at H
              have c8b0 : decide (x5_2 < (a1.size : Int)) = false := decide_eq_false c8
              clear c8
              by_cases c14 : 1 + a1.size ≤ 9223372036854775807
              · rw [if_pos c14] at H
                have c14b0 := eq_true c14
                have c14b1 : decide (1 + a1.size ≤ 9223372036854775807) = true := decide_eq_true c14
                try have c14b2 : (9223372036854775807 < 1 + a1.size) = False := eq_false (Nat.not_lt.2 c14)
                by_cases c15 : ((⟨#[35]⟩ : ByteArray) ++ a1).size + 5 ≤ 9223372036854775807
                · rw [if_pos c15] at H
                  have c15b0 := eq_true c15
                  have c15b1 : decide (((⟨#[35]⟩ : ByteArray) ++ a1).size + 5 ≤ 9223372036854775807) = true := decide_eq_true c15
                  (try (have c15b3 : (9223372036854775807 < 1 + a1.size + 5) = False := eq_false (Nat.not_lt.2 (by have h_ := c15; simp only [ByteArray.size_append] at h_; exact h_))))
                  (try (have c15b4 : (1 + a1.size + 5 ≤ 9223372036854775807) = True := eq_true (by have h_ := c15; simp only [ByteArray.size_append] at h_; exact h_)))
                  try have c15b2 : (9223372036854775807 < ((⟨#[35]⟩ : ByteArray) ++ a1).size + 5) = False := eq_false (Nat.not_lt.2 c15)
                  replace H := Option.bind_eq_some_iff.mp H
                  obtain ⟨⟨t454, t457, t458⟩, A160, H⟩ := H
                  replace H : (if (((⟨#[35]⟩ : ByteArray) ++ a1) ++ (⟨#[10, 32, 9, 13, 10]⟩ : ByteArray)).size + a0.size ≤ 9223372036854775807 then ((lexer_Lex.f k2 ((((⟨#[35]⟩ : ByteArray) ++ a1) ++ (⟨#[10, 32, 9, 13, 10]⟩ : ByteArray)) ++ a0)).bind fun bt460 => (if t457 = bt460.2.1 then (if t457 = 0 then (salchowlaw09_LexerComments.j2 k2 t454 bt460.1 false) else (if t457 = 6 then (salchowlaw09_LexerComments.j2 k2 t454 bt460.1 false) else (salchowlaw09_LexerComments.j2 k2 t454 bt460.1 (bt460.2.2 != (wrap64 (t458 + ((((⟨#[35]⟩ : ByteArray) ++ a1) ++ (⟨#[10, 32, 9, 13, 10]⟩ : ByteArray)).size : Int))))))) else (salchowlaw09_LexerComments.j2 k2 t454 bt460.1 true))) else (none)) = some r := H
                  have A16 := Aside0.mk A160
                  clear A160
                  by_cases c17 : (((⟨#[35]⟩ : ByteArray) ++ a1) ++ (⟨#[10, 32, 9, 13, 10]⟩ : ByteArray)).size + a0.size ≤ 9223372036854775807
                  · rw [if_pos c17] at H
                    have c17b0 := eq_true c17
                    have c17b1 : decide ((((⟨#[35]⟩ : ByteArray) ++ a1) ++ (⟨#[10, 32, 9, 13, 10]⟩ : ByteArray)).size + a0.size ≤ 9223372036854775807) = true := decide_eq_true c17
                    (try (have c17b3 : (9223372036854775807 < 1 + a1.size + 5 + a0.size) = False := eq_false (Nat.not_lt.2 (by have h_ := c17; simp only [ByteArray.size_append] at h_; exact h_))))
                    (try (have c17b4 : (1 + a1.size + 5 + a0.size ≤ 9223372036854775807) = True := eq_true (by have h_ := c17; simp only [ByteArray.size_append] at h_; exact h_)))
                    try have c17b2 : (9223372036854775807 < (((⟨#[35]⟩ : ByteArray) ++ a1) ++ (⟨#[10, 32, 9, 13, 10]⟩ : ByteArray)).size + a0.size) = False := eq_false (Nat.not_lt.2 c17)
                    replace H := Option.bind_eq_some_iff.mp H
                    obtain ⟨⟨t460, t463, t464⟩, A180, H⟩ := H
                    replace H : (if t457 = t463 then (if t457 = 0 then (salchowlaw09_LexerComments.j2 k2 t454 t460 false) else (if t457 = 6 then (salchowlaw09_LexerComments.j2 k2 t454 t460 false) else (salchowlaw09_LexerComments.j2 k2 t454 t460 (t464 != (wrap64 (t458 + ((((⟨#[35]⟩ : ByteArray) ++ a1) ++ (⟨#[10, 32, 9, 13, 10]⟩ : ByteArray)).size : Int))))))) else (salchowlaw09_LexerComments.j2 k2 t454 t460 true)) = some r := H
                    have A18 := Aside0.mk A180
                    clear A180
                    have HC19 := Aside0.mk H
                    clear H
                    go_upto_region 11 with (first | ((with_reducible refine gate_callee (f := 25) rfl ?_); refine goesL_ (some 36) rfl rfl Tryd.func25 (by kernel_rfl) rfl #[.string a0] rfl (by (try simp only [List.map_toArray, List.map_cons, List.map_nil]); first | done | rfl | (simp only [List.length_drop, List.length_take]; rfl)) ?_; (with_reducible refine (lexer_Lex.calls k2 a0 t454 t457 t458 _ A16.out).mono ?_); rintro e w20 ⟨v455, rfl, ho0, hb⟩; refine ⟨_, rfl, ?_⟩; have n0_ := Aside0.mk (Kd.R_lower ho0 (below_size (bl_ HB.out))); have n1_ := Aside0.mk (below_step (bl_ HB.out) hb); clear HB; have HO456 := n0_; have HB := n1_; clear n0_ n1_; (try clear hb); (try clear hb2); (try clear hk); (try clear hi); (try clear ho0)) | ((with_reducible refine gate_dst (N := 8) rfl ?_); (try (refine gate_guard (by rfl) ?_; dsimp only)); refine box_event ?hg (N := 8) ?hd (cs := #[.int .i64 0, .int .i64 0]) (t := 26) ?hr ?_; (case hd => rfl); (case hg => rfl); (case hr => first | (go_simp; done) | (go_simp; rfl)); intro gb459 hg w21 hbox hb; have n0_ := Aside0.mk (Kd.R_below (by (with_reducible repeat (first | apply Kd.R_alloc | apply Kd.R_drewN | apply Kd.R_drew)); exact HO456.out) hb); have n1_ := Aside0.mk (below_step (bl_ HB.out) hb); have n2_ := Aside0.mk (hbox); have n3_ := Aside0.mk ((by rw [hg]; exact (below_size (bl_ HB.out)) : w.heap.size ≤ gb459)); have n4_ := Aside0.mk ((by rw [hg]; exact (below_size (bl_ HB.out)) : w.heap.size ≤ gb459)); clear HO456; clear HB; have HO456 := n0_; have HB := n1_; have BK459 := n2_; have GW459 := n3_; have GE459 := n4_; clear n0_ n1_ n2_ n3_ n4_; clear hb hbox hg; have hcz22_0 : w21.cell? ⟨gb459, 0, none⟩ = some (.int .i64 0) := (blk_cell BK459.out 0).trans rfl; have hcz22_1 : w21.cell? ⟨gb459, 1, none⟩ = some (.int .i64 0) := (blk_cell BK459.out 1).trans rfl; have hfz22_0 := blk_frozen BK459.out 0; have hfz22_1 := blk_frozen BK459.out 1) | ((with_reducible refine gate_callee (f := 25) rfl ?_); refine goesL_ (some 43) rfl rfl Tryd.func25 (by kernel_rfl) rfl #[.string ((((⟨#[35]⟩ : ByteArray) ++ a1) ++ (⟨#[10, 32, 9, 13, 10]⟩ : ByteArray)) ++ a0)] rfl (by (try simp only [List.map_toArray, List.map_cons, List.map_nil]); first | done | rfl | (simp only [List.length_drop, List.length_take]; rfl)) ?_; (with_reducible refine (lexer_Lex.calls k2 ((((⟨#[35]⟩ : ByteArray) ++ a1) ++ (⟨#[10, 32, 9, 13, 10]⟩ : ByteArray)) ++ a0) t460 t463 t464 _ A18.out).mono ?_); rintro e w23 ⟨v461, rfl, ho0, hb⟩; refine ⟨_, rfl, ?_⟩; have n0_ := Aside0.mk (Kd.R_elder' (by (with_reducible repeat (first | apply Kd.R_alloc | apply Kd.R_drewN | apply Kd.R_drew)); exact (Kd.R_mono (Kd.R_far (p := ⟨gb459, 1, none⟩) (Kd.R_far (p := ⟨gb459, 0, none⟩) (Kd.R_types HO456.out BK459.out (by decide)) (fun _ hk => hk.2) (.int .i64 t457)) (fun _ hk => hk.2) (.int .i64 t458)) (fun _ h_ => h_.1))) (Kd.R_base ho0) hb); have n1_ := Aside0.mk (Kd.R_lower (Kd.R_new' ho0 (Kd.R_lt (by (with_reducible repeat (first | apply Kd.R_alloc | apply Kd.R_drewN | apply Kd.R_drew)); exact (Kd.R_mono (Kd.R_far (p := ⟨gb459, 1, none⟩) (Kd.R_far (p := ⟨gb459, 0, none⟩) (Kd.R_types HO456.out BK459.out (by decide)) (fun _ hk => hk.2) (.int .i64 t457)) (fun _ hk => hk.2) (.int .i64 t458)) (fun _ h_ => h_.1))))) (below_size (bl1_ HB.out GE459.out))); have n2_ := Aside0.mk (blk_below (g := gb459) (o := .cells #[.int .i64 t457, .int .i64 t458] 26 (0, 0)) (by (with_reducible repeat (first | refine blk_drewN ?_ _ | refine blk_drew ?_ | refine blk_alloc ?_ _)); refine blk_put (cs := #[.int .i64 t457, .int .i64 0]) ?_ 1 _ rfl; (with_reducible repeat (first | refine blk_drewN ?_ _ | refine blk_drew ?_ | refine blk_alloc ?_ _)); refine blk_put (cs := #[.int .i64 0, .int .i64 0]) ?_ 0 _ rfl; (with_reducible repeat (first | refine blk_drewN ?_ _ | refine blk_drew ?_ | refine blk_alloc ?_ _)); exact BK459.out) hb); have n3_ := Aside0.mk (below_step (bl1_ HB.out GE459.out) hb); clear HO456; clear BK459; clear HB; have HO456 := n0_; have HO462 := n1_; have BK459 := n2_; have HB := n3_; clear n0_ n1_ n2_ n3_; (try clear hb); (try clear hb2); (try clear hk); (try clear hi); (try clear ho0)) | ((with_reducible refine gate_dst (N := 10) rfl ?_); (try (refine gate_guard (by rfl) ?_; dsimp only)); refine box_event ?hg (N := 10) ?hd (cs := #[.int .i64 0, .int .i64 0]) (t := 26) ?hr ?_; (case hd => rfl); (case hg => rfl); (case hr => first | (go_simp; done) | (go_simp; rfl)); intro gb465 hg w24 hbox hb; have n0_ := Aside0.mk (Kd.R_below (by (with_reducible repeat (first | apply Kd.R_alloc | apply Kd.R_drewN | apply Kd.R_drew)); exact HO456.out) hb); have n1_ := Aside0.mk (Kd.R_below (by (with_reducible repeat (first | apply Kd.R_alloc | apply Kd.R_drewN | apply Kd.R_drew)); exact HO462.out) hb); have n2_ := Aside0.mk (blk_below (g := gb459) (o := .cells #[.int .i64 t457, .int .i64 t458] 26 (0, 0)) (bk_ BK459.out) hb); have n3_ := Aside0.mk (below_step (bl1_ HB.out GE459.out) hb); have n4_ := Aside0.mk (hbox); have n5_ := Aside0.mk ((by rw [hg]; exact (below_size (bl1_ HB.out GE459.out)) : w.heap.size ≤ gb465)); have n6_ := Aside0.mk ((by rw [hg]; exact (below_size (bl1_ HB.out GE459.out)) : w.heap.size ≤ gb465)); have n7_ := Aside0.mk ((by rw [hg]; exact Nat.ne_of_lt (blk_lt (g := gb459) (o := .cells #[.int .i64 t457, .int .i64 t458] 26 (0, 0)) (bk_ BK459.out)) : gb459 ≠ gb465)); have n8_ := Aside0.mk ((by rw [hg]; exact Nat.ne_of_gt (blk_lt (g := gb459) (o := .cells #[.int .i64 t457, .int .i64 t458] 26 (0, 0)) (bk_ BK459.out)) : gb465 ≠ gb459)); clear HO456; clear HO462; clear BK459; clear HB; have HO456 := n0_; have HO462 := n1_; have BK459 := n2_; have HB := n3_; have BK465 := n4_; have GW465 := n5_; have GE465 := n6_; have NB459_465 := n7_; have NB465_459 := n8_; clear n0_ n1_ n2_ n3_ n4_ n5_ n6_ n7_ n8_; clear hb hbox hg; have hnb25 := NB465_459.out; have hnc25 := NB459_465.out; have hcz26_0 : w24.cell? ⟨gb465, 0, none⟩ = some (.int .i64 0) := (blk_cell BK465.out 0).trans rfl; have hcz26_1 : w24.cell? ⟨gb465, 1, none⟩ = some (.int .i64 0) := (blk_cell BK465.out 1).trans rfl; have hfz26_0 := blk_frozen BK465.out 0; have hfz26_1 := blk_frozen BK465.out 1))
                    (try simp only [Act.put, List.setIfInBounds_toArray, List.set_cons_zero, List.set_cons_succ])
                    go_cut [70] (fun v70 wc => ∃ (kq : Nat) (x70_18 : Bool), v70 = .bool x70_18 ∧ Aside0 (salchowlaw09_LexerComments.j2 kq t454 t460 x70_18 = some r) ∧ Aside0 (kq ≤ k2) ∧ Aside0 (Kd.R k46 46 wc w.heap.size (fun k_ => some k_ ≠ (v461 : Value).ownBlock) v455 t454) ∧ Aside0 (Kd.R k46 46 wc w.heap.size (fun k_ => some k_ ≠ (v455 : Value).ownBlock) v461 t460) ∧ Aside0 (wc.heap[gb459]? = some (.cells #[.int .i64 t457, .int .i64 t458] 26 (0, 0))) ∧ Aside0 (wc.heap[gb465]? = some (.cells #[.int .i64 t463, .int .i64 t464] 26 (0, 0))) ∧ Aside0 (Below w.heap.size w wc))
                    case first =>
                      have H := HC19.out
                      clear HC19
                      by_cases c27 : t457 = t463
                      · rw [if_pos c27] at H
                        have c27b0 : (t457 == t463) = true := beq_iff_eq.mpr c27
                        have c27b1 : (t457 != t463) = false := bne_eq_false_iff_eq.mpr c27
                        clear c27
                        (first | rw [c27b0] | (simp only [i64_w, i32_w]; rw [c27b0]) | skip)
                        by_cases c28 : t457 = 0
                        · rw [if_pos c28] at H
                          have c28b0 : (t457 == 0) = true := beq_iff_eq.mpr c28
                          have c28b1 : (t457 != 0) = false := bne_eq_false_iff_eq.mpr c28
                          clear c28
                          have H' := Aside0.mk H
                          clear H
                          have hnb29 := NB459_465.out
                          have hnc29 := NB465_459.out
                          have hcz30_0 : w24.cell? ⟨gb459, 0, none⟩ = some (.int .i64 t457) := (blk_cell BK459.out 0).trans rfl
                          have hcz30_1 : w24.cell? ⟨gb459, 1, none⟩ = some (.int .i64 t458) := (blk_cell BK459.out 1).trans rfl
                          have hfz30_0 := blk_frozen BK459.out 0
                          have hfz30_1 := blk_frozen BK459.out 1
                          have hcz31_0 : w24.cell? ⟨gb465, 0, none⟩ = some (.int .i64 0) := (blk_cell BK465.out 0).trans rfl
                          have hcz31_1 : w24.cell? ⟨gb465, 1, none⟩ = some (.int .i64 0) := (blk_cell BK465.out 1).trans rfl
                          have hfz31_0 := blk_frozen BK465.out 0
                          have hfz31_1 := blk_frozen BK465.out 1
                          go_wp2
                          go_meet
                          case rel => exact ⟨_, (false), (by first | rfl | (simp; done) | (simp [*]; done) | (simp <;> rfl)), H', ⟨by have := HJ2.out; have := HK2.out; first | omega | exact Nat.le_refl _⟩, ⟨by (with_reducible repeat (first | apply Kd.R_alloc | apply Kd.R_drewN | apply Kd.R_drew)); exact Kd.R_mono (Kd.R_far (p := ⟨gb465, 1, none⟩) (Kd.R_far (p := ⟨gb465, 0, none⟩) (Kd.R_types HO456.out BK465.out (by decide)) (fun _ hk => hk.2) (.int .i64 t463)) (fun _ hk => hk.2) (.int .i64 t464)) (fun _ hk => hk.1.2)⟩, ⟨by (with_reducible repeat (first | apply Kd.R_alloc | apply Kd.R_drewN | apply Kd.R_drew)); exact Kd.R_mono (Kd.R_far (p := ⟨gb465, 1, none⟩) (Kd.R_far (p := ⟨gb465, 0, none⟩) (Kd.R_types HO462.out BK465.out (by decide)) (fun _ hk => hk.2) (.int .i64 t463)) (fun _ hk => hk.2) (.int .i64 t464)) (fun _ hk => hk.1.2)⟩, ⟨by (with_reducible repeat (first | refine blk_drewN ?_ _ | refine blk_drew ?_ | refine blk_alloc ?_ _)); refine blk_far ?_ NB459_465.out _; (with_reducible repeat (first | refine blk_drewN ?_ _ | refine blk_drew ?_ | refine blk_alloc ?_ _)); refine blk_far ?_ NB459_465.out _; (with_reducible repeat (first | refine blk_drewN ?_ _ | refine blk_drew ?_ | refine blk_alloc ?_ _)); exact BK459.out⟩, ⟨by (with_reducible repeat (first | refine blk_drewN ?_ _ | refine blk_drew ?_ | refine blk_alloc ?_ _)); refine blk_put (cs := #[.int .i64 t463, .int .i64 0]) ?_ 1 _ rfl; (with_reducible repeat (first | refine blk_drewN ?_ _ | refine blk_drew ?_ | refine blk_alloc ?_ _)); refine blk_put (cs := #[.int .i64 0, .int .i64 0]) ?_ 0 _ rfl; (with_reducible repeat (first | refine blk_drewN ?_ _ | refine blk_drew ?_ | refine blk_alloc ?_ _)); exact BK465.out⟩, ⟨bl2_ HB.out GE459.out GE465.out⟩⟩
                        · rw [if_neg c28] at H
                          have c28b0 : (t457 == 0) = false := beq_eq_false_iff_ne.mpr c28
                          have c28b1 : (t457 != 0) = true := bne_iff_ne.mpr c28
                          by_cases c32 : t457 = 6
                          · rw [if_pos c32] at H
                            have c32b0 : (t457 == 6) = true := beq_iff_eq.mpr c32
                            have c32b1 : (t457 != 6) = false := bne_eq_false_iff_eq.mpr c32
                            clear c32
                            have H' := Aside0.mk H
                            clear H
                            have hnb33 := NB459_465.out
                            have hnc33 := NB465_459.out
                            have hcz34_0 : w24.cell? ⟨gb459, 0, none⟩ = some (.int .i64 t457) := (blk_cell BK459.out 0).trans rfl
                            have hcz34_1 : w24.cell? ⟨gb459, 1, none⟩ = some (.int .i64 t458) := (blk_cell BK459.out 1).trans rfl
                            have hfz34_0 := blk_frozen BK459.out 0
                            have hfz34_1 := blk_frozen BK459.out 1
                            have hcz35_0 : w24.cell? ⟨gb465, 0, none⟩ = some (.int .i64 0) := (blk_cell BK465.out 0).trans rfl
                            have hcz35_1 : w24.cell? ⟨gb465, 1, none⟩ = some (.int .i64 0) := (blk_cell BK465.out 1).trans rfl
                            have hfz35_0 := blk_frozen BK465.out 0
                            have hfz35_1 := blk_frozen BK465.out 1
                            go_wp2
                            go_meet
                            case rel => exact ⟨_, (false), (by first | rfl | (simp; done) | (simp [*]; done) | (simp <;> rfl)), H', ⟨by have := HJ2.out; have := HK2.out; first | omega | exact Nat.le_refl _⟩, ⟨by (with_reducible repeat (first | apply Kd.R_alloc | apply Kd.R_drewN | apply Kd.R_drew)); exact Kd.R_mono (Kd.R_far (p := ⟨gb465, 1, none⟩) (Kd.R_far (p := ⟨gb465, 0, none⟩) (Kd.R_types HO456.out BK465.out (by decide)) (fun _ hk => hk.2) (.int .i64 t463)) (fun _ hk => hk.2) (.int .i64 t464)) (fun _ hk => hk.1.2)⟩, ⟨by (with_reducible repeat (first | apply Kd.R_alloc | apply Kd.R_drewN | apply Kd.R_drew)); exact Kd.R_mono (Kd.R_far (p := ⟨gb465, 1, none⟩) (Kd.R_far (p := ⟨gb465, 0, none⟩) (Kd.R_types HO462.out BK465.out (by decide)) (fun _ hk => hk.2) (.int .i64 t463)) (fun _ hk => hk.2) (.int .i64 t464)) (fun _ hk => hk.1.2)⟩, ⟨by (with_reducible repeat (first | refine blk_drewN ?_ _ | refine blk_drew ?_ | refine blk_alloc ?_ _)); refine blk_far ?_ NB459_465.out _; (with_reducible repeat (first | refine blk_drewN ?_ _ | refine blk_drew ?_ | refine blk_alloc ?_ _)); refine blk_far ?_ NB459_465.out _; (with_reducible repeat (first | refine blk_drewN ?_ _ | refine blk_drew ?_ | refine blk_alloc ?_ _)); exact BK459.out⟩, ⟨by (with_reducible repeat (first | refine blk_drewN ?_ _ | refine blk_drew ?_ | refine blk_alloc ?_ _)); refine blk_put (cs := #[.int .i64 t463, .int .i64 0]) ?_ 1 _ rfl; (with_reducible repeat (first | refine blk_drewN ?_ _ | refine blk_drew ?_ | refine blk_alloc ?_ _)); refine blk_put (cs := #[.int .i64 0, .int .i64 0]) ?_ 0 _ rfl; (with_reducible repeat (first | refine blk_drewN ?_ _ | refine blk_drew ?_ | refine blk_alloc ?_ _)); exact BK465.out⟩, ⟨bl2_ HB.out GE459.out GE465.out⟩⟩
                          · rw [if_neg c32] at H
                            have c32b0 : (t457 == 6) = false := beq_eq_false_iff_ne.mpr c32
                            have c32b1 : (t457 != 6) = true := bne_iff_ne.mpr c32
                            have H' := Aside0.mk H
                            clear H
                            have hnb36 := NB459_465.out
                            have hnc36 := NB465_459.out
                            have hcz37_0 : w24.cell? ⟨gb459, 0, none⟩ = some (.int .i64 t457) := (blk_cell BK459.out 0).trans rfl
                            have hcz37_1 : w24.cell? ⟨gb459, 1, none⟩ = some (.int .i64 t458) := (blk_cell BK459.out 1).trans rfl
                            have hfz37_0 := blk_frozen BK459.out 0
                            have hfz37_1 := blk_frozen BK459.out 1
                            have hcz38_0 : w24.cell? ⟨gb465, 0, none⟩ = some (.int .i64 0) := (blk_cell BK465.out 0).trans rfl
                            have hcz38_1 : w24.cell? ⟨gb465, 1, none⟩ = some (.int .i64 0) := (blk_cell BK465.out 1).trans rfl
                            have hfz38_0 := blk_frozen BK465.out 0
                            have hfz38_1 := blk_frozen BK465.out 1
                            go_wp2
                            go_meet
                            case rel => exact ⟨_, ((t464 != (wrap64 (t458 + ((((⟨#[35]⟩ : ByteArray) ++ a1) ++ (⟨#[10, 32, 9, 13, 10]⟩ : ByteArray)).size : Int))))), (by first | rfl | (simp; done) | (simp [*]; done) | (simp <;> rfl)), H', ⟨by have := HJ2.out; have := HK2.out; first | omega | exact Nat.le_refl _⟩, ⟨by (with_reducible repeat (first | apply Kd.R_alloc | apply Kd.R_drewN | apply Kd.R_drew)); exact Kd.R_mono (Kd.R_far (p := ⟨gb465, 1, none⟩) (Kd.R_far (p := ⟨gb465, 0, none⟩) (Kd.R_types HO456.out BK465.out (by decide)) (fun _ hk => hk.2) (.int .i64 t463)) (fun _ hk => hk.2) (.int .i64 t464)) (fun _ hk => hk.1.2)⟩, ⟨by (with_reducible repeat (first | apply Kd.R_alloc | apply Kd.R_drewN | apply Kd.R_drew)); exact Kd.R_mono (Kd.R_far (p := ⟨gb465, 1, none⟩) (Kd.R_far (p := ⟨gb465, 0, none⟩) (Kd.R_types HO462.out BK465.out (by decide)) (fun _ hk => hk.2) (.int .i64 t463)) (fun _ hk => hk.2) (.int .i64 t464)) (fun _ hk => hk.1.2)⟩, ⟨by (with_reducible repeat (first | refine blk_drewN ?_ _ | refine blk_drew ?_ | refine blk_alloc ?_ _)); refine blk_far ?_ NB459_465.out _; (with_reducible repeat (first | refine blk_drewN ?_ _ | refine blk_drew ?_ | refine blk_alloc ?_ _)); refine blk_far ?_ NB459_465.out _; (with_reducible repeat (first | refine blk_drewN ?_ _ | refine blk_drew ?_ | refine blk_alloc ?_ _)); exact BK459.out⟩, ⟨by (with_reducible repeat (first | refine blk_drewN ?_ _ | refine blk_drew ?_ | refine blk_alloc ?_ _)); refine blk_put (cs := #[.int .i64 t463, .int .i64 0]) ?_ 1 _ rfl; (with_reducible repeat (first | refine blk_drewN ?_ _ | refine blk_drew ?_ | refine blk_alloc ?_ _)); refine blk_put (cs := #[.int .i64 0, .int .i64 0]) ?_ 0 _ rfl; (with_reducible repeat (first | refine blk_drewN ?_ _ | refine blk_drew ?_ | refine blk_alloc ?_ _)); exact BK465.out⟩, ⟨bl2_ HB.out GE459.out GE465.out⟩⟩
                      · rw [if_neg c27] at H
                        have c27b0 : (t457 == t463) = false := beq_eq_false_iff_ne.mpr c27
                        have c27b1 : (t457 != t463) = true := bne_iff_ne.mpr c27
                        (first | rw [c27b0] | (simp only [i64_w, i32_w]; rw [c27b0]) | skip)
                        have H' := Aside0.mk H
                        clear H
                        have hnb39 := NB459_465.out
                        have hnc39 := NB465_459.out
                        have hcz40_0 : w24.cell? ⟨gb459, 0, none⟩ = some (.int .i64 t457) := (blk_cell BK459.out 0).trans rfl
                        have hcz40_1 : w24.cell? ⟨gb459, 1, none⟩ = some (.int .i64 t458) := (blk_cell BK459.out 1).trans rfl
                        have hfz40_0 := blk_frozen BK459.out 0
                        have hfz40_1 := blk_frozen BK459.out 1
                        have hcz41_0 : w24.cell? ⟨gb465, 0, none⟩ = some (.int .i64 0) := (blk_cell BK465.out 0).trans rfl
                        have hcz41_1 : w24.cell? ⟨gb465, 1, none⟩ = some (.int .i64 0) := (blk_cell BK465.out 1).trans rfl
                        have hfz41_0 := blk_frozen BK465.out 0
                        have hfz41_1 := blk_frozen BK465.out 1
                        go_wp2
                        go_meet
                        case rel => exact ⟨_, (true), (by first | rfl | (simp; done) | (simp [*]; done) | (simp <;> rfl)), H', ⟨by have := HJ2.out; have := HK2.out; first | omega | exact Nat.le_refl _⟩, ⟨by (with_reducible repeat (first | apply Kd.R_alloc | apply Kd.R_drewN | apply Kd.R_drew)); exact Kd.R_mono (Kd.R_far (p := ⟨gb465, 1, none⟩) (Kd.R_far (p := ⟨gb465, 0, none⟩) (Kd.R_types HO456.out BK465.out (by decide)) (fun _ hk => hk.2) (.int .i64 t463)) (fun _ hk => hk.2) (.int .i64 t464)) (fun _ hk => hk.1.2)⟩, ⟨by (with_reducible repeat (first | apply Kd.R_alloc | apply Kd.R_drewN | apply Kd.R_drew)); exact Kd.R_mono (Kd.R_far (p := ⟨gb465, 1, none⟩) (Kd.R_far (p := ⟨gb465, 0, none⟩) (Kd.R_types HO462.out BK465.out (by decide)) (fun _ hk => hk.2) (.int .i64 t463)) (fun _ hk => hk.2) (.int .i64 t464)) (fun _ hk => hk.1.2)⟩, ⟨by (with_reducible repeat (first | refine blk_drewN ?_ _ | refine blk_drew ?_ | refine blk_alloc ?_ _)); refine blk_far ?_ NB459_465.out _; (with_reducible repeat (first | refine blk_drewN ?_ _ | refine blk_drew ?_ | refine blk_alloc ?_ _)); refine blk_far ?_ NB459_465.out _; (with_reducible repeat (first | refine blk_drewN ?_ _ | refine blk_drew ?_ | refine blk_alloc ?_ _)); exact BK459.out⟩, ⟨by (with_reducible repeat (first | refine blk_drewN ?_ _ | refine blk_drew ?_ | refine blk_alloc ?_ _)); refine blk_put (cs := #[.int .i64 t463, .int .i64 0]) ?_ 1 _ rfl; (with_reducible repeat (first | refine blk_drewN ?_ _ | refine blk_drew ?_ | refine blk_alloc ?_ _)); refine blk_put (cs := #[.int .i64 0, .int .i64 0]) ?_ 0 _ rfl; (with_reducible repeat (first | refine blk_drewN ?_ _ | refine blk_drew ?_ | refine blk_alloc ?_ _)); exact BK465.out⟩, ⟨bl2_ HB.out GE459.out GE465.out⟩⟩
                    case rest =>
                      clear HC19
                      try clear c1
                      try clear p1
                      try clear q1
                      try clear hx1
                      try clear c2
                      try clear p2
                      try clear c3
                      try clear c4
                      try clear c4b0
                      try clear c4b1
                      try clear c5
                      try clear p6
                      try clear c8
                      try clear c8b0
                      try clear c9
                      try clear c9b0
                      try clear p10
                      try clear q10
                      try clear hx10
                      try clear c11
                      try clear c11b0
                      try clear c11b1
                      try clear c14
                      try clear c14b0
                      try clear c14b1
                      try clear c14b2
                      try clear c15
                      try clear c15b0
                      try clear c15b1
                      try clear c15b2
                      try clear c17
                      try clear c17b0
                      try clear c17b1
                      try clear c17b2
                      try clear c25
                      try clear c27
                      try clear c27b0
                      try clear c27b1
                      try clear c28
                      try clear c28b0
                      try clear c28b1
                      try clear c29
                      try clear c32
                      try clear c32b0
                      try clear c32b1
                      try clear c33
                      try clear c36
                      try clear c39
                      try clear hcz22_0
                      try clear hcz22_1
                      try clear hcz26_0
                      try clear hcz26_1
                      try clear hcz30_0
                      try clear hcz30_1
                      try clear hcz31_0
                      try clear hcz31_1
                      try clear hcz34_0
                      try clear hcz34_1
                      try clear hcz35_0
                      try clear hcz35_1
                      try clear hcz37_0
                      try clear hcz37_1
                      try clear hcz38_0
                      try clear hcz38_1
                      try clear hcz40_0
                      try clear hcz40_1
                      try clear hcz41_0
                      try clear hcz41_1
                      try clear hfz22_0
                      try clear hfz22_1
                      try clear hfz26_0
                      try clear hfz26_1
                      try clear hfz30_0
                      try clear hfz30_1
                      try clear hfz31_0
                      try clear hfz31_1
                      try clear hfz34_0
                      try clear hfz34_1
                      try clear hfz35_0
                      try clear hfz35_1
                      try clear hfz37_0
                      try clear hfz37_1
                      try clear hfz38_0
                      try clear hfz38_1
                      try clear hfz40_0
                      try clear hfz40_1
                      try clear hfz41_0
                      try clear hfz41_1
                      try clear p10
                      try clear p2
                      try clear q10
                      obtain ⟨kq, x70_18, rfl, HA, HJ18, HO_7, HO_9, BK459, BK465, HB⟩ := hcut
                      cases kq with
                      | zero => exact absurd HA.out (by simp [salchowlaw09_LexerComments.j2])
                      | succ kj18 =>
                        have H := HA.out
                        clear HA
                        simp only [salchowlaw09_LexerComments.j2] at H
                        by_cases c42 : x70_18 = true
                        · subst c42
                          have H1 : (some false) = some r := by rw [if_pos rfl] at H; exact H
                          clear H
                          have H := H1
                          clear H1
                          obtain rfl := Option.some.inj H
                          go_wp2
                          go_ret
                          exact ⟨er_, bl2_ HB.out GE459.out GE465.out⟩
                        · replace c42 := Bool.eq_false_iff.mpr c42
                          subst c42
                          have H1 : ((salchowlaw09_awake.f kj18).bind fun t466 => (if t466 = true then ((salchowref09_Same.f kj18 t454 t460 false).bind fun t467 => (some t467)) else (some false))) = some r := by rw [if_neg (show ¬ (false = true) by decide)] at H; exact H
                          clear H
                          have H := H1
                          clear H1
                          replace H := Option.bind_eq_some_iff.mp H
                          obtain ⟨t466, A430, H⟩ := H
                          replace H : (if t466 = true then ((salchowref09_Same.f kj18 t454 t460 false).bind fun t467 => (some t467)) else (some false)) = some r := H
                          have A43 := Aside0.mk A430
                          clear A430
                          by_cases c44 : t466 = true
                          · subst c44
                            have H1 : ((salchowref09_Same.f kj18 t454 t460 false).bind fun t467 => (some t467)) = some r := by rw [if_pos rfl] at H; exact H
                            clear H
                            have H := H1
                            clear H1
                            replace H := Option.bind_eq_some_iff.mp H
                            obtain ⟨t467, A450, H⟩ := H
                            replace H : (some t467) = some r := H
                            have A45 := Aside0.mk A450
                            clear A450
                            obtain rfl := Option.some.inj H
                            go_wp2_with (first | ((with_reducible refine gate_callee (f := 32) rfl ?_); refine goesL_ (some 71) rfl rfl Tryd.func32 (by kernel_rfl) rfl #[] rfl (by (try simp only [List.map_toArray, List.map_cons, List.map_nil]); first | done | rfl | (simp only [List.length_drop, List.length_take]; rfl)) ?_; (with_reducible refine (salchowlaw09_awake.calls kj18  true _ ?side1 A43.out).mono ?_); (case side1 => exact Gl.below hG (bl2_ HB.out GE459.out GE465.out)); rintro e w46 ⟨rfl, hb⟩; refine ⟨_, rfl, ?_⟩; have n0_ := Aside0.mk (Kd.R_below (by (with_reducible repeat (first | apply Kd.R_alloc | apply Kd.R_drewN | apply Kd.R_drew)); exact HO_7.out) hb); have n1_ := Aside0.mk (Kd.R_below (by (with_reducible repeat (first | apply Kd.R_alloc | apply Kd.R_drewN | apply Kd.R_drew)); exact HO_9.out) hb); have n2_ := Aside0.mk (blk_below (g := gb459) (o := .cells #[.int .i64 t457, .int .i64 t458] 26 (0, 0)) (bk_ BK459.out) hb); have n3_ := Aside0.mk (blk_below (g := gb465) (o := .cells #[.int .i64 t463, .int .i64 t464] 26 (0, 0)) (bk_ BK465.out) hb); have n4_ := Aside0.mk (below_step (bl2_ HB.out GE459.out GE465.out) hb); clear HO_7; clear HO_9; clear BK459; clear BK465; clear HB; have HO_7 := n0_; have HO_9 := n1_; have BK459 := n2_; have BK465 := n3_; have HB := n4_; clear n0_ n1_ n2_ n3_ n4_; (try clear hb); (try clear hb2); (try clear hk); (try clear hi); obtain ⟨Ao47, co47, eo47⟩ := Kd.R_slice HO_7.out; subst eo47; obtain ⟨Ao48, co48, eo48⟩ := Kd.R_slice HO_9.out; subst eo48) | (go_at_call 34; (with_reducible refine (salchowref09_Same.calls kj18 _ _ t454 _ _ t460 false t467 _ ?side1 ?side2 ?side3 ?side4 A45.out).mono ?_); (case side1 => repeat (first | exact (Kd.R_reads' HO_7.out).2.2 | (with_reducible refine Kd.C_alloc ?_ _) | (with_reducible refine Kd.C_drewN ?_ _) | (with_reducible refine Kd.C_drew ?_))); (case side2 => exact (Kd.R_reads' HO_7.out).2.1); (case side3 => repeat (first | exact (Kd.R_reads' HO_9.out).2.2 | (with_reducible refine Kd.C_alloc ?_ _) | (with_reducible refine Kd.C_drewN ?_ _) | (with_reducible refine Kd.C_drew ?_))); (case side4 => exact (Kd.R_reads' HO_9.out).2.1); rintro e w49 ⟨rfl, hb⟩; have n0_ := Aside0.mk (Kd.R_below (by (with_reducible repeat (first | apply Kd.R_alloc | apply Kd.R_drewN | apply Kd.R_drew)); exact HO_7.out) hb); have n1_ := Aside0.mk (Kd.R_below (by (with_reducible repeat (first | apply Kd.R_alloc | apply Kd.R_drewN | apply Kd.R_drew)); exact HO_9.out) hb); have n2_ := Aside0.mk (blk_below (g := gb459) (o := .cells #[.int .i64 t457, .int .i64 t458] 26 (0, 0)) (bk_ BK459.out) hb); have n3_ := Aside0.mk (blk_below (g := gb465) (o := .cells #[.int .i64 t463, .int .i64 t464] 26 (0, 0)) (bk_ BK465.out) hb); have n4_ := Aside0.mk (below_step (bl2_ HB.out GE459.out GE465.out) hb); clear HO_7; clear HO_9; clear BK459; clear BK465; clear HB; have HO_7 := n0_; have HO_9 := n1_; have BK459 := n2_; have BK465 := n3_; have HB := n4_; clear n0_ n1_ n2_ n3_ n4_; (try clear hb); (try clear hb2); (try clear hk); (try clear hi)))
                            go_ret
                            exact ⟨er_, bl2_ HB.out GE459.out GE465.out⟩
                          · replace c44 := Bool.eq_false_iff.mpr c44
                            subst c44
                            have H1 : (some false) = some r := by rw [if_neg (show ¬ (false = true) by decide)] at H; exact H
                            clear H
                            have H := H1
                            clear H1
                            obtain rfl := Option.some.inj H
                            go_wp2_with (first | ((with_reducible refine gate_callee (f := 32) rfl ?_); refine goesL_ (some 71) rfl rfl Tryd.func32 (by kernel_rfl) rfl #[] rfl (by (try simp only [List.map_toArray, List.map_cons, List.map_nil]); first | done | rfl | (simp only [List.length_drop, List.length_take]; rfl)) ?_; (with_reducible refine (salchowlaw09_awake.calls kj18  false _ ?side1 A43.out).mono ?_); (case side1 => exact Gl.below hG (bl2_ HB.out GE459.out GE465.out)); rintro e w50 ⟨rfl, hb⟩; refine ⟨_, rfl, ?_⟩; have n0_ := Aside0.mk (Kd.R_below (by (with_reducible repeat (first | apply Kd.R_alloc | apply Kd.R_drewN | apply Kd.R_drew)); exact HO_7.out) hb); have n1_ := Aside0.mk (Kd.R_below (by (with_reducible repeat (first | apply Kd.R_alloc | apply Kd.R_drewN | apply Kd.R_drew)); exact HO_9.out) hb); have n2_ := Aside0.mk (blk_below (g := gb459) (o := .cells #[.int .i64 t457, .int .i64 t458] 26 (0, 0)) (bk_ BK459.out) hb); have n3_ := Aside0.mk (blk_below (g := gb465) (o := .cells #[.int .i64 t463, .int .i64 t464] 26 (0, 0)) (bk_ BK465.out) hb); have n4_ := Aside0.mk (below_step (bl2_ HB.out GE459.out GE465.out) hb); clear HO_7; clear HO_9; clear BK459; clear BK465; clear HB; have HO_7 := n0_; have HO_9 := n1_; have BK459 := n2_; have BK465 := n3_; have HB := n4_; clear n0_ n1_ n2_ n3_ n4_; (try clear hb); (try clear hb2); (try clear hk); (try clear hi)))
                            go_ret
                            exact ⟨er_, bl2_ HB.out GE459.out GE465.out⟩
                  · rw [if_neg c17] at H
                    exact absurd H (by simp)
                · rw [if_neg c15] at H
                  exact absurd H (by simp)
              · rw [if_neg c14] at H
                exact absurd H (by simp)
/-- THE ONE PURE STATEMENT of salchowlaw09_LexerComments: yours. -/
def salchowlaw09_LexerComments.Pure : Prop := ∀ (a0 : ByteArray) (a1 : ByteArray), a0.size ≤ 140737488351232 → a1.size ≤ 140737488351232 → ∃ k, salchowlaw09_LexerComments.f k a0 a1 = some true
theorem salchowlaw09_LexerComments.walk (P : salchowlaw09_LexerComments.Pure) (a0 : ByteArray) (a1 : ByteArray) (w : World) (hG : Gl w) (w0 : a0.size ≤ 140737488351232) (w1 : a1.size ≤ 140737488351232) :
    Calls Tryd.prog 11 #[.string a0, .string a1] w fun e w' => e = .returned (.bool true) ∧ Below w.heap.size w w' := by
  obtain ⟨k, h⟩ := P a0 a1 w0 w1
  refine (salchowlaw09_LexerComments.calls k a0 a1 true w hG h).mono ?_
  rintro e w' ⟨rfl, hd⟩
  exact ⟨rfl, hd⟩
end Go.Proofs.YtkifdadhojbohaaDoor.Pr
namespace Go.Proofs.YtkifdadhojbohaaDoor.Pu
open Go.RowKit Go.Proofs.YtkifdadhojbohaaDoor Go.Proofs.YtkifdadhojbohaaDoor.Pr Go.Proofs.YtkifdadhojbohaaDoorW.PrintWords Go.Proofs.YtkifdadhojbohaaDoorW.PrintLast
/-- What stands in a comment is skipped. -/
theorem skip_in : ∀ (c l : List UInt8), (∀ x ∈ c, x.toNat ≠ 10) → skipL true (c ++ 10 :: l) = skipL false l := by
  intro c
  induction c with
  | nil => intro l _; simp [skipL]
  | cons x c ih =>
    intro l h
    have hx := h x (by simp)
    have := ih l (fun y hy => h y (by simp [hy]))
    simp only [List.cons_append, skipL]
    rw [if_neg hx]
    exact this
theorem skip_head (c l : List UInt8) (h : ∀ x ∈ c, x.toNat ≠ 10) : skipL false ((35 :: c ++ [10, 32, 9, 13, 10]) ++ l) = skipL false l := by
  have : (35 :: c ++ [10, 32, 9, 13, 10]) ++ l = 35 :: (c ++ 10 :: (32 :: 9 :: 13 :: 10 :: l)) := by simp
  rw [this]
  have e : skipL false (35 :: (c ++ 10 :: (32 :: 9 :: 13 :: 10 :: l))) = skipL true (c ++ 10 :: (32 :: 9 :: 13 :: 10 :: l)) := by
    simp [skipL, kindOf]
  rw [e, skip_in c _ h]
  simp [skipL, kindOf]
theorem lexerComments : salchowlaw09_LexerComments.Pure := by
  intro s c _ _
  apply Ev.rounds
  unfold salchowlaw09_LexerComments.f
  have out : Ev (fun k => salchowlaw09_LexerComments.j0 k s c true) true := by
    refine Ev.succ ?_
    simp only [salchowlaw09_LexerComments.j0]
    exact Ev.ifp (by simp) (Ev.bind awake_f (Ev.now _))
  by_cases hs : (s.size : Int) > 2000
  · exact Ev.ifp hs out
  · refine Ev.ifn hs ?_
    by_cases hc : (c.size : Int) > 200
    · rw [decide_eq_true hc]; exact out
    · rw [decide_eq_false hc]
      refine Ev.succ ?_
      simp only [salchowlaw09_LexerComments.j0]
      refine Ev.ifn (by decide) ?_
      have j2 : ∀ xs ys : List S46, xs.map (fixT false) = ys.map (fixT false) → xs.length ≤ 1000000 → Ev (fun k => salchowlaw09_LexerComments.j2 k xs ys false) true := by
        intro xs ys h hn
        refine Ev.succ ?_
        simp only [salchowlaw09_LexerComments.j2]
        exact Ev.ifn (by decide) (Ev.bind awake_f (Ev.ifp rfl (Ev.bind (same_f false xs ys h hn) (Ev.now _))))
      have fin : (∀ x ∈ lst c, x.toNat ≠ 10) → Ev (fun k => salchowlaw09_LexerComments.l0 k s c (c.size : Nat)) true := by
        intro hno
        refine Ev.succ ?_
        simp only [salchowlaw09_LexerComments.l0]
        have z1 : ((⟨#[35]⟩ : ByteArray) ++ c).size = 1 + c.size := by rw [ByteArray.size_append]; rfl
        have z2 : (((⟨#[35]⟩ : ByteArray) ++ c) ++ (⟨#[10, 32, 9, 13, 10]⟩ : ByteArray)).size = c.size + 6 := by rw [ByteArray.size_append, z1]; show 1 + c.size + 5 = _; omega
        have z3 : ((((⟨#[35]⟩ : ByteArray) ++ c) ++ (⟨#[10, 32, 9, 13, 10]⟩ : ByteArray)) ++ s).size = c.size + 6 + s.size := by rw [ByteArray.size_append, z2]
        have zl : lst ((((⟨#[35]⟩ : ByteArray) ++ c) ++ (⟨#[10, 32, 9, 13, 10]⟩ : ByteArray)) ++ s) = (35 :: lst c ++ [10, 32, 9, 13, 10]) ++ lst s := by
          rw [lst_append, lst_append, lst_append]; rfl
        refine Ev.ifn (by omega) (Ev.ifp (by omega) (Ev.ifp (by rw [z1]; omega) (Ev.bind (Lex_f s (by omega)) (Ev.ifp (by rw [z2]; omega) (Ev.bind (Lex_f _ (by rw [z3]; omega)) ?_)))))
        rw [z3, z2, zl, lexL_skip _ _ (lst s) (skip_head _ _ hno), lexL_fuel (c.size + 6 + s.size + 1) (s.size + 1) (lst s) (by rw [lst_length]; omega) (by rw [lst_length]; omega)]
        have hlen := lexAns_length s
        cases hx : lexL (s.size + 1) (lst s) with
        | error e =>
          have he := lexL_err _ _ _ hx
          rw [lst_length] at he
          simp only [lexAns]
          refine Ev.ifp (by simp) ?_
          by_cases h0 : e.1 = 0
          · exact Ev.ifp h0 (j2 _ _ rfl (by simp))
          · refine Ev.ifn h0 ?_
            by_cases h6 : e.1 = 6
            · exact Ev.ifp h6 (j2 _ _ rfl (by simp))
            · refine Ev.ifn h6 ?_
              have hq : (((c.size + 6 + s.size : Nat) : Int) - (e.2 : Int) != wrap64 ((s.size : Int) - (e.2 : Int) + ((c.size + 6 : Nat) : Int))) = false := by
                rw [bne_eq_false_iff_eq, wrap64_of (by omega) (by omega)]; omega
              rw [hq]
              exact j2 _ _ rfl (by simp)
        | ok ts =>
          rw [hx] at hlen
          simp only [lexAns, List.nil_append] at hlen ⊢
          refine Ev.ifp (by simp) (Ev.ifp (by simp) (j2 _ _ ?_ (by omega)))
          rw [List.map_map, List.map_map]
          rfl
      have loop : ∀ (d i : Nat) (l : List UInt8), i ≤ c.size → c.size - i = d → (lst c).drop i = l → (∀ x ∈ (lst c).take i, x.toNat ≠ 10) → Ev (fun k => salchowlaw09_LexerComments.l0 k s c (i : Int)) true := by
        intro d
        induction d with
        | zero =>
          intro i l hi hd hl hno
          obtain rfl : i = c.size := by omega
          exact fin (by rw [List.take_of_length_le (by rw [lst_length]; omega)] at hno; exact hno)
        | succ d ih =>
          intro i l hi hd hl hno
          cases l with
          | nil => exact absurd (at_nil hi hl) (by omega)
          | cons x l =>
            obtain ⟨h1, h2, h3⟩ := at_cons hl
            refine Ev.succ ?_
            simp only [salchowlaw09_LexerComments.l0]
            rw [h2, wrap_nat i (by omega)]
            refine Ev.ifp (by omega) (Ev.ifp (by omega) ?_)
            by_cases h10 : x.toNat = 10
            · exact Ev.ifp (by omega) (Ev.bind awake_f (Ev.now _))
            · refine Ev.ifn (by omega) (ih (i + 1) l (by omega) (by omega) h3 ?_)
              intro y hy
              rw [List.take_succ_eq_append_getElem (by rw [lst_length]; exact h1), List.mem_append] at hy
              rcases hy with hy | hy
              · exact hno y hy
              · have hx : (lst c)[i]? = some x := by
                  have := congrArg (·[0]?) hl
                  simpa using this
                rw [List.mem_singleton] at hy
                rw [hy]
                rw [(List.getElem?_eq_some_iff.1 hx).2]
                exact h10
      exact loop _ 0 (lst c) (by omega) rfl rfl (by simp)
end Go.Proofs.YtkifdadhojbohaaDoor.Pu
namespace Go.Proofs.YtkifdadhojbohaaDoor.lexerComments
open Go.ChangeShapes Go.WideShapes Go.ChangeAt Go.RowKit Rk
open Go.ChangeMaps (open_string shut_string)
theorem c09 : (Rows.lexerCommentsRow.inPlace == Tryd.prog.inPlace 11) = true := by kernel_rfl
theorem c10 : (Rows.lexerCommentsRow.unfollowed == Tryd.prog.unfollowed 11) = true := by kernel_rfl
theorem c11 : (Rows.lexerCommentsRow.recurses == Tryd.prog.recurses 11) = true := by kernel_rfl
theorem c12 : (Rows.lexerCommentsRow.named == Tryd.prog.varsNamed 11) = true := by kernel_rfl
theorem facts : joinedFacts Tryd.prog 11 Tryd.f11 Rows.lexerCommentsSpec Rows.lexerCommentsRow = true :=
  facts_of _ _ _ _ _ (by kernel_rfl) out_ rowed_ (by kernel_rfl) (by kernel_rfl) rfl (by kernel_rfl) rfl (by kernel_rfl) c09 c10 c11 c12 (by kernel_rfl) (by kernel_rfl) (by kernel_rfl) (by kernel_rfl) (by kernel_rfl)
    (by kernel_rfl) (by kernel_rfl) (by kernel_rfl) (by kernel_rfl) (by kernel_rfl) (by kernel_rfl) heard_ enter_ (by kernel_rfl) (by kernel_rfl) (by kernel_rfl) (by kernel_rfl) (by kernel_rfl) (by kernel_rfl)
theorem goes : false = Rows.lexerCommentsRow.goesBy Tryd.prog := by kernel_rfl
set_option maxRecDepth 100000 in
theorem lifted (os : Os) (started : os.Started) (H : Type) (enc : TypeId × Value → H) :
    ReturnsInHanded {} Tryd.checked os 11 .any (fun w args => (Rows.lexerCommentsSpec.pre enc Tryd.prog Tryd.f11 [] false w args ∧ laidMetH Tryd.prog laidB w) ∧ sizedMet enc Tryd.prog Tryd.f11 (OpenSpec.ofChange Rows.lexerCommentsSpec) false w args)
      (Rows.lexerCommentsSpec.post enc Tryd.prog Tryd.f11 false true false false) := by
  refine returnsInHanded_of_change_and (C := Tryd.checked) (X := fun w _ => laidMetH Tryd.prog laidB w) (fun _ _ _ hh h => h.of_heap hh) own started (by kernel_rfl) Tryd.func11
    (ChangeSpec.witness_shaped (enc := enc) (C := Tryd.checked) (os := os) (X := fun w _ => laidMetH Tryd.prog laidB w) false (wB os) #[.string ByteArray.empty, .string ByteArray.empty] 8 (World.laidAll_os _ _ _)
      (World.shaped_of_ZipB (by kernel_rfl) (by kernel_rfl)) (by kernel_rfl) (by kernel_rfl) (by kernel_rfl) (met_B os _)) ?_
  intro W base args ds gs before hval0 hW _ hsz0 hL _
  have hsz : (DataW.weightsEach Tryd.prog (Tryd.f11.params.toList ++ Rows.lexerCommentsSpec.plain.varTypes Tryd.prog) (ds ++ gs)).all (· ≤ reachBytes) = true := hsz0
  have hval : ∀ (j : Nat) t v, Tryd.f11.params[j]? = some t → args[j]? = some v → Value.okWide Tryd.prog W .any base t v := hval0
  have hW' := hW
  obtain ⟨p, q, hA0, hV, rfl, _, _⟩ := hW
  have hA : DataW.TrodAll enc Tryd.prog W 0 (fun _ => true) true Tryd.f11.params.toList args.toList ds p := hA0
  rw [Tryd.params11] at hA hval hsz
  obtain ⟨v0, vs0, d0, ds0, p0, q0, hargs, rfl, rfl, h0, r0⟩ := trodAll_cons hA
  obtain ⟨v1, vs1, d1, ds1, p1, q1, rfl, rfl, rfl, h1, r1⟩ := trodAll_cons r0
  obtain ⟨rfl, rfl, rfl⟩ := trodAll_nil r1
  obtain rfl : args = #[v0, v1] := by cases args; simp_all
  obtain ⟨rfl, rfl⟩ := trodVars_none hV
  obtain ⟨a0, rfl, rfl, rfl, y0⟩ := open_string Tryd.underlying9 (hval 0 9 v0 rfl rfl) h0
  have w0 : a0.size ≤ 140737488351232 := by
    have z := sized_string hsz (j := 0) (t := 9) rfl rfl
    rw [Array.length_toList] at z
    exact z
  obtain ⟨a1, rfl, rfl, rfl, y1⟩ := open_string Tryd.underlying9 (hval 1 9 v1 rfl rfl) h1
  have w1 : a1.size ≤ 140737488351232 := by
    have z := sized_string hsz (j := 1) (t := 9) rfl rfl
    rw [Array.length_toList] at z
    exact z
  clear hA0 hval0 hsz0 hsz
  refine (Pr.salchowlaw09_LexerComments.walk Pu.lexerComments a0 a1 W (gl_B hL) w0 w1).mono fun e W' ⟨he, bel⟩ => ?_
  subst he
  exact ⟨_, rfl, _, _, _, [], _, [], hW', trodAll_mk1 (shut_bool Tryd.underlying4 _), (trodAll_cons_mk (shut_string Tryd.underlying9 y0) (trodAll_cons_mk (shut_string Tryd.underlying9 y1) trodAll_mk0)), rfl, bel.frame _, fun h => by cases h⟩
theorem over : Rows.lexerCommentsRow.holds Tryd.pinned (OpenSpec.ofChange Rows.lexerCommentsSpec) :=
  OpenClaim.holds_of_wide 11 Tryd.f11 rfl rfl rfl rfl rfl rfl rfl ⟨rfl, rfl, rfl, rfl, rfl⟩ rfl rfl rfl rfl rfl (by kernel_rfl) Tryd.func11 facts
    (of_decide_eq_true (by kernel_rfl)) (by unfold Func.isWrapper; first | (rw [if_pos (by decide +kernel)]; kernel_rfl) | (rw [if_neg (by decide +kernel)]; exact ⟨rfl, rfl⟩))
    (fun os started H enc _ => lifted os started H enc)
theorem card : Rows.LexerCommentsCardSaid :=
  Claim7.holds_tied_plain_at .later [] [.data, .data, .data, .data, .sentinel, .sentinel, .pinned] true (true, "74d2011260c70b611c86c4d3b7f5d11cc5fefff18c715f175ff3522b41f9dd0c") true
    over (fun _ h => by cases h) (by kernel_rfl) (fun _ h => by cases h) lexerComments_row_tie rfl ⟨rfl, rfl⟩ mainIs_ rfl
    (fun f fn hf hfn => by
      obtain rfl : f = 11 := Option.some.inj ((show Tryd.prog.funcNamed "salchow/salchowlaw09.LexerComments" = some 11 by kernel_rfl).symm.trans hf) |>.symm
      obtain rfl : fn = Tryd.f11 := (Option.some.inj (Tryd.func11.symm.trans hfn)).symm
      exact ⟨looks_, fun j t ht => by
        rw [Tryd.params11] at ht
        have hm : t ∈ [9, 9] := by simpa using Array.mem_of_getElem? ht
        have hall : ([9, 9].all fun u => !Tryd.prog.wantsStandIn u) = true := by kernel_rfl
        exact (show Tryd.prog.wantsStandIn t = false by simpa using List.all_eq_true.1 hall t hm)⟩)
    goes
#print axioms card
end Go.Proofs.YtkifdadhojbohaaDoor.lexerComments
