/- Joined out of the texts of this proof that bear the names PrF67 PrF38 PrF37 PvC: what each shows stands over it there. -/
import Derived.Test.YtkifdadhojbohaaDoorYb1
import Derived.Test.YtkifdadhojbohaaDoorYa1
import Derived.Test.YtkifdadhojbohaaDoorYf1
import Derived.Test.YtkifdadhojbohaaDoorYh1
import Derived.Test.YtkifdadhojbohaaDoorYf2
set_option linter.unusedVariables false
set_option linter.unusedSimpArgs false
namespace Go.Proofs.YtkifdadhojbohaaDoor.Pr
open Go.Proofs.YtkifdadhojbohaaDoor
open Go.RowKit Go.Proofs.YtkifdadhojbohaaDoorW.PrintWords Go.Proofs.YtkifdadhojbohaaDoorW.PrintLast Go.Proofs.YtkifdadhojbohaaDoorW.PrintMore
attribute [local go_sem] max2_int min2_int max_two min_two max_three min_three max_four min_four   -- for this text's walks alone
set_option linter.unusedVariables false
set_option linter.unusedSimpArgs false
/-! ### salchowref09_spell: function 67 -/
def salchowref09_spell.l0 : Nat → ByteArray → ByteArray → Option (ByteArray)
  | 0, _, _ => none
  | k + 1, x3, x4 => if (x4.size : Int) > 0 then (if 0 ≤ (wrap64 ((x4.size : Int) - 1)) then (if (wrap64 ((x4.size : Int) - 1)) < (x4.size : Int) then (if (bt x4 (wrap64 ((x4.size : Int) - 1))) = 48 then (if (wrap64 ((x4.size : Int) - 1)) ≤ (x4.size : Int) then (salchowref09_spell.l0 k x3 (x4.extract 0 ((wrap64 ((x4.size : Int) - 1)) : Int).toNat)) else (none)) else (if x4.toList = ([] : List UInt8) then (some x3) else (if 1 + x4.size ≤ 9223372036854775807 then (if x3.size + ((⟨#[46]⟩ : ByteArray) ++ x4).size ≤ 9223372036854775807 then (some (x3 ++ ((⟨#[46]⟩ : ByteArray) ++ x4))) else (none)) else (none)))) else (none)) else (none)) else (if x4.toList = ([] : List UInt8) then (some x3) else (if 1 + x4.size ≤ 9223372036854775807 then (if x3.size + ((⟨#[46]⟩ : ByteArray) ++ x4).size ≤ 9223372036854775807 then (some (x3 ++ ((⟨#[46]⟩ : ByteArray) ++ x4))) else (none)) else (none)))
def salchowref09_spell.f (k : Nat) (a0 : Int) : Option (ByteArray) := (strconv_FormatInt.f (wrap64 (Int.tdiv a0 1000)) 10).bind fun t411 => ((strconv_FormatInt.f (wrap64 (1000 + (Int.tmod a0 1000))) 10).bind fun t412 => (if 1 ≤ (t412.size : Int) then (salchowref09_spell.l0 k t411 (t412.extract 1 t412.size)) else (none)))
theorem salchowref09_spell.mono_l : ∀ k, (∀ y0 y1, LeO (salchowref09_spell.l0 k y0 y1) (salchowref09_spell.l0 (k + 1) y0 y1))
  | 0 => fun _ _ r h => by simp [salchowref09_spell.l0] at h
  | k + 1 => by
    have ih0 := salchowref09_spell.mono_l k
    · intro y0 y1
      unfold salchowref09_spell.l0
      repeat' first
      | (with_reducible exact ih0 _ _)
      | (with_reducible exact LeO.refl _)
      | (with_reducible exact LeO.none _)
      | (with_reducible refine LeO.ite ?_ ?_)
      | (with_reducible refine LeO.bind ?_ (fun _ => ?_))
      | exact ih0 _ _
      | exact LeO.none _
      | refine LeO.ite ?_ ?_
      | refine LeO.bind ?_ (fun _ => ?_)
theorem salchowref09_spell.mono : ∀ a0 k, LeO (salchowref09_spell.f k a0) (salchowref09_spell.f (k + 1) a0) := by
  intro a0 k
  have ih0 := salchowref09_spell.mono_l k
  unfold salchowref09_spell.f
  repeat' first
      | (with_reducible exact ih0 _ _)
      | (with_reducible exact LeO.refl _)
      | (with_reducible exact LeO.none _)
      | (with_reducible refine LeO.ite ?_ ?_)
      | (with_reducible refine LeO.bind ?_ (fun _ => ?_))
      | exact ih0 _ _
      | exact LeO.none _
      | refine LeO.ite ?_ ?_
      | refine LeO.bind ?_ (fun _ => ?_)
set_option maxHeartbeats 8000000 in
set_option maxRecDepth 100000 in
theorem salchowref09_spell.calls (k : Nat) (a0 : Int) (r : ByteArray) (w : World) (hG : Gl w) (h : salchowref09_spell.f k a0 = some r) :
    Calls Tryd.prog 67 #[.int .i64 a0] w fun e w' => e = .returned (.string r) ∧ Below w.heap.size w w' := by
  have HB := Aside0.mk (Below.refl w.heap.size w)
  have H : ((strconv_FormatInt.f (wrap64 (Int.tdiv a0 1000)) 10).bind fun t411 => ((strconv_FormatInt.f (wrap64 (1000 + (Int.tmod a0 1000))) 10).bind fun t412 => (if 1 ≤ (t412.size : Int) then (salchowref09_spell.l0 k t411 (t412.extract 1 t412.size)) else (none)))) = some r := h
  clear h
  replace H := Option.bind_eq_some_iff.mp H
  obtain ⟨t411, A20, H⟩ := H
  replace H : ((strconv_FormatInt.f (wrap64 (1000 + (Int.tmod a0 1000))) 10).bind fun t412 => (if 1 ≤ (t412.size : Int) then (salchowref09_spell.l0 k t411 (t412.extract 1 t412.size)) else (none))) = some r := H
  have A2 := Aside0.mk A20
  clear A20
  replace H := Option.bind_eq_some_iff.mp H
  obtain ⟨t412, A30, H⟩ := H
  replace H : (if 1 ≤ (t412.size : Int) then (salchowref09_spell.l0 k t411 (t412.extract 1 t412.size)) else (none)) = some r := H
  have A3 := Aside0.mk A30
  clear A30
  by_cases c4 : 1 ≤ (t412.size : Int)
  · rw [if_pos c4] at H
    have c4b0 := eq_true c4
    have c4b1 : decide (1 ≤ (t412.size : Int)) = true := decide_eq_true c4
    clear c4
    have H' := Aside0.mk H
    clear H
    go_enter Tryd.func67, Tryd.ntmps67
    go_wp2_with (first | ((with_reducible refine gate_callee (f := 61) rfl ?_); refine goesL_ (some 7) rfl rfl Tryd.func61 (by kernel_rfl) rfl #[.int .i64 (wrap64 (Int.tdiv a0 1000)), .int .i64 10] rfl (by (try simp only [List.map_toArray, List.map_cons, List.map_nil]); first | done | rfl | (simp only [List.length_drop, List.length_take]; rfl)) ?_; (with_reducible refine (strconv_FormatInt.calls (wrap64 (Int.tdiv a0 1000)) 10 t411 _ ?side1 A2.out).mono ?_); (case side1 => exact Gl.below hG (bl_ HB.out)); rintro e w5 ⟨rfl, hb⟩; refine ⟨_, rfl, ?_⟩; have n0_ := Aside0.mk (below_step (bl_ HB.out) hb); clear HB; have HB := n0_; clear n0_; (try clear hb); (try clear hb2); (try clear hk); (try clear hi)) | ((with_reducible refine gate_callee (f := 61) rfl ?_); refine goesL_ (some 11) rfl rfl Tryd.func61 (by kernel_rfl) rfl #[.int .i64 (wrap64 (1000 + (Int.tmod a0 1000))), .int .i64 10] rfl (by (try simp only [List.map_toArray, List.map_cons, List.map_nil]); first | done | rfl | (simp only [List.length_drop, List.length_take]; rfl)) ?_; (with_reducible refine (strconv_FormatInt.calls (wrap64 (1000 + (Int.tmod a0 1000))) 10 t412 _ ?side1 A3.out).mono ?_); (case side1 => exact Gl.below hG (bl_ HB.out)); rintro e w6 ⟨rfl, hb⟩; refine ⟨_, rfl, ?_⟩; have n0_ := Aside0.mk (below_step (bl_ HB.out) hb); clear HB; have HB := n0_; clear n0_; (try clear hb); (try clear hb2); (try clear hk); (try clear hi)))
    go_loopg [4] k (fun kq v4 w' => ∃ (x4_1 : ByteArray), v4 = .string x4_1 ∧ Aside0 (salchowref09_spell.l0 kq t411 x4_1 = some r) ∧ Aside0 (kq ≤ k) ∧ Aside0 (Below w.heap.size w w'))
    case atStart => exact ⟨(t412.extract 1 t412.size), (by first | rfl | (simp; done) | (simp [*]; done) | (simp <;> rfl)), H', ⟨Nat.le_refl _⟩, ⟨bl_ HB.out⟩⟩
    case round =>
      clear H'
      try clear p2
      try clear c4
      try clear c4b0
      try clear c4b1
      try clear c6
      try clear p6
      obtain ⟨x4_1, rfl, HA, HK1, HB⟩ := hrel
      cases gk with
      | zero => exact absurd HA.out (by simp [salchowref09_spell.l0])
      | succ k1 =>
        have H := HA.out
        clear HA
        simp only [salchowref09_spell.l0] at H
        by_cases c7 : (x4_1.size : Int) > 0
        · rw [if_pos c7] at H
          have c7b0 : decide (0 < (x4_1.size : Int)) = true := decide_eq_true c7
          have c7b1 : decide (0 < x4_1.size) = true := decide_eq_true (by omega)
          clear c7
          obtain ⟨ji8, hji8⟩ : ∃ j_ : Int, (wrap64 ((x4_1.size : Int) - 1)) = j_ := ⟨_, rfl⟩
          replace H : (if 0 ≤ (ji8) then (if (ji8) < (x4_1.size : Int) then (if (bt x4_1 (ji8)) = 48 then (if (ji8) ≤ (x4_1.size : Int) then (salchowref09_spell.l0 k1 t411 (x4_1.extract 0 ((ji8) : Int).toNat)) else (none)) else (if x4_1.toList = ([] : List UInt8) then (some t411) else (if 1 + x4_1.size ≤ 9223372036854775807 then (if t411.size + ((⟨#[46]⟩ : ByteArray) ++ x4_1).size ≤ 9223372036854775807 then (some (t411 ++ ((⟨#[46]⟩ : ByteArray) ++ x4_1))) else (none)) else (none)))) else (none)) else (none)) = some r := by first | (rw [hji8] at H; exact H) | (simp only [hji8] at H ⊢; exact H)
          have hji8w : (IntKind.i64.wrap ((x4_1.size : Int) - 1)) = ji8 := (i64_w _).trans hji8
          by_cases c9 : 0 ≤ (ji8)
          · rw [if_pos c9] at H
            have c9b0 : decide (0 ≤ (ji8)) = true := decide_eq_true c9
            clear c9
            by_cases c10 : (ji8) < (x4_1.size : Int)
            · rw [if_pos c10] at H
              have c10b0 : decide ((ji8) < (x4_1.size : Int)) = true := decide_eq_true c10
              clear c10
              by_cases c12 : (bt x4_1 (ji8)) = 48
              · rw [if_pos c12] at H
                have c12b0 : ((bt x4_1 (ji8)) == 48) = true := beq_iff_eq.mpr c12
                have c12b1 : ((bt x4_1 (ji8)) != 48) = false := bne_eq_false_iff_eq.mpr c12
                clear c12
                have c13b0 := eq_true (of_decide_eq_true (by first | (with_reducible assumption) | assumption) : 0 ≤ (ji8))
                by_cases c14 : (ji8) ≤ (x4_1.size : Int)
                · rw [if_pos c14] at H
                  have c14b0 := eq_true c14
                  have c14b1 : decide ((ji8) ≤ (x4_1.size : Int)) = true := decide_eq_true c14
                  clear c14
                  have H' := Aside0.mk H
                  clear H
                  have p11 : 0 ≤ ((ji8) : Int) := of_decide_eq_true (by first | (with_reducible assumption) | assumption)
                  have q11 : (ji8) < (x4_1.size : Int) := of_decide_eq_true (by first | (with_reducible assumption) | assumption)
                  have hx11 := bt_at x4_1 (ji8)
                  replace p11 := eq_true p11
                  replace q11 := eq_true q11
                  go_wp2
                  go_roundg k1
                  case measure => have := HK1.out; omega
                  case rel => exact ⟨(x4_1.extract 0 ((ji8) : Int).toNat), (by first | rfl | (simp; done) | (simp only [← hji8] <;> (first | rfl | simp)) | (simp [*]; done)), H', ⟨by have := HK1.out; omega⟩, ⟨bl_ HB.out⟩⟩
                · rw [if_neg c14] at H
                  exact absurd H (by simp)
              · rw [if_neg c12] at H
                have c12b0 : ((bt x4_1 (ji8)) == 48) = false := beq_eq_false_iff_ne.mpr c12
                have c12b1 : ((bt x4_1 (ji8)) != 48) = true := bne_iff_ne.mpr c12
                by_cases c15 : x4_1.toList = ([] : List UInt8)
                · rw [if_pos c15] at H
                  have c15b0 : (x4_1.toList == ([] : List UInt8)) = true := beq_iff_eq.mpr c15
                  have c15b1 : (x4_1.toList != ([] : List UInt8)) = false := bne_eq_false_iff_eq.mpr c15
                  clear c15
                  obtain rfl := Option.some.inj H
                  have p11 : 0 ≤ ((ji8) : Int) := of_decide_eq_true (by first | (with_reducible assumption) | assumption)
                  have q11 : (ji8) < (x4_1.size : Int) := of_decide_eq_true (by first | (with_reducible assumption) | assumption)
                  have hx11 := bt_at x4_1 (ji8)
                  replace p11 := eq_true p11
                  replace q11 := eq_true q11
                  go_wp2
                  go_ret
                  exact ⟨by first | rfl | (simp [errW_none, errW_some] <;> rfl) | (simp only [← hji8]; first | rfl | (simp [errW_none, errW_some] <;> rfl)) | (simp [*, errW_none, errW_some] <;> rfl), bl_ HB.out⟩
                · rw [if_neg c15] at H
                  have c15b0 : (x4_1.toList == ([] : List UInt8)) = false := beq_eq_false_iff_ne.mpr c15
                  have c15b1 : (x4_1.toList != ([] : List UInt8)) = true := bne_iff_ne.mpr c15
                  by_cases c16 : 1 + x4_1.size ≤ 9223372036854775807
                  · rw [if_pos c16] at H
                    have c16b0 := eq_true c16
                    have c16b1 : decide (1 + x4_1.size ≤ 9223372036854775807) = true := decide_eq_true c16
                    try have c16b2 : (9223372036854775807 < 1 + x4_1.size) = False := eq_false (Nat.not_lt.2 c16)
                    by_cases c17 : t411.size + ((⟨#[46]⟩ : ByteArray) ++ x4_1).size ≤ 9223372036854775807
                    · rw [if_pos c17] at H
                      have c17b0 := eq_true c17
                      have c17b1 : decide (t411.size + ((⟨#[46]⟩ : ByteArray) ++ x4_1).size ≤ 9223372036854775807) = true := decide_eq_true c17
                      (try (have c17b3 : (9223372036854775807 < t411.size + 1 + x4_1.size) = False := eq_false (Nat.not_lt.2 (by have h_ := c17; simp only [ByteArray.size_append] at h_; exact h_))))
                      (try (have c17b4 : (t411.size + 1 + x4_1.size ≤ 9223372036854775807) = True := eq_true (by have h_ := c17; simp only [ByteArray.size_append] at h_; exact h_)))
                      try have c17b2 : (9223372036854775807 < t411.size + ((⟨#[46]⟩ : ByteArray) ++ x4_1).size) = False := eq_false (Nat.not_lt.2 c17)
                      obtain rfl := Option.some.inj H
                      have p11 : 0 ≤ ((ji8) : Int) := of_decide_eq_true (by first | (with_reducible assumption) | assumption)
                      have q11 : (ji8) < (x4_1.size : Int) := of_decide_eq_true (by first | (with_reducible assumption) | assumption)
                      have hx11 := bt_at x4_1 (ji8)
                      replace p11 := eq_true p11
                      replace q11 := eq_true q11
                      go_wp2
                      go_ret
                      exact ⟨by first | rfl | (simp [errW_none, errW_some] <;> rfl) | (simp only [← hji8]; first | rfl | (simp [errW_none, errW_some] <;> rfl)) | (simp [*, errW_none, errW_some] <;> rfl), bl_ HB.out⟩
                    · rw [if_neg c17] at H
                      exact absurd H (by simp)
                  · rw [if_neg c16] at H
                    exact absurd H (by simp)
            · rw [if_neg c10] at H
              exact absurd H (by simp)
          · rw [if_neg c9] at H
            exact absurd H (by simp)
        · rw [if_neg c7] at H
          have c7b0 : decide (0 < (x4_1.size : Int)) = false := decide_eq_false c7
          have c7b1 : decide (0 < x4_1.size) = false := decide_eq_false (by omega)
          clear c7
          by_cases c18 : x4_1.toList = ([] : List UInt8)
          · rw [if_pos c18] at H
            have c18b0 : (x4_1.toList == ([] : List UInt8)) = true := beq_iff_eq.mpr c18
            have c18b1 : (x4_1.toList != ([] : List UInt8)) = false := bne_eq_false_iff_eq.mpr c18
            clear c18
            obtain rfl := Option.some.inj H
            go_wp2
            go_ret
            exact ⟨er_, bl_ HB.out⟩
          · rw [if_neg c18] at H
            have c18b0 : (x4_1.toList == ([] : List UInt8)) = false := beq_eq_false_iff_ne.mpr c18
            have c18b1 : (x4_1.toList != ([] : List UInt8)) = true := bne_iff_ne.mpr c18
            by_cases c19 : 1 + x4_1.size ≤ 9223372036854775807
            · rw [if_pos c19] at H
              have c19b0 := eq_true c19
              have c19b1 : decide (1 + x4_1.size ≤ 9223372036854775807) = true := decide_eq_true c19
              try have c19b2 : (9223372036854775807 < 1 + x4_1.size) = False := eq_false (Nat.not_lt.2 c19)
              by_cases c20 : t411.size + ((⟨#[46]⟩ : ByteArray) ++ x4_1).size ≤ 9223372036854775807
              · rw [if_pos c20] at H
                have c20b0 := eq_true c20
                have c20b1 : decide (t411.size + ((⟨#[46]⟩ : ByteArray) ++ x4_1).size ≤ 9223372036854775807) = true := decide_eq_true c20
                (try (have c20b3 : (9223372036854775807 < t411.size + 1 + x4_1.size) = False := eq_false (Nat.not_lt.2 (by have h_ := c20; simp only [ByteArray.size_append] at h_; exact h_))))
                (try (have c20b4 : (t411.size + 1 + x4_1.size ≤ 9223372036854775807) = True := eq_true (by have h_ := c20; simp only [ByteArray.size_append] at h_; exact h_)))
                try have c20b2 : (9223372036854775807 < t411.size + ((⟨#[46]⟩ : ByteArray) ++ x4_1).size) = False := eq_false (Nat.not_lt.2 c20)
                obtain rfl := Option.some.inj H
                go_wp2
                go_ret
                exact ⟨er_, bl_ HB.out⟩
              · rw [if_neg c20] at H
                exact absurd H (by simp)
            · rw [if_neg c19] at H
              exact absurd H (by simp)
  · rw [if_neg c4] at H
    exact absurd H (by simp)
end Go.Proofs.YtkifdadhojbohaaDoor.Pr
namespace Go.Proofs.YtkifdadhojbohaaDoor.Pr
open Go.Proofs.YtkifdadhojbohaaDoor
open Go.RowKit Go.Proofs.YtkifdadhojbohaaDoorW.PrintWords Go.Proofs.YtkifdadhojbohaaDoorW.PrintLast Go.Proofs.YtkifdadhojbohaaDoorW.PrintMore
attribute [local go_sem] max2_int min2_int max_two min_two max_three min_three max_four min_four   -- for this text's walks alone
set_option linter.unusedVariables false
set_option linter.unusedSimpArgs false
/-! ### salchowref09_Spell: function 38 -/
def salchowref09_Spell.f (k : Nat) (a0_0 : Int) (a0_1 : ByteArray) (a0_2 : Int) (a0_3 : Int) : Option (ByteArray) := if a0_0 = 2 then (if a0_2 ≥ 0 then (if a0_2 ≤ 1000000000 then ((salchowref09_spell.f k a0_2).bind fun t414 => (some t414)) else (some (⟨#[]⟩ : ByteArray))) else (some (⟨#[]⟩ : ByteArray))) else (if a0_0 = 3 then (if 1 + a0_1.size ≤ 9223372036854775807 then (if ((⟨#[34]⟩ : ByteArray) ++ a0_1).size + 1 ≤ 9223372036854775807 then (some (((⟨#[34]⟩ : ByteArray) ++ a0_1) ++ (⟨#[34]⟩ : ByteArray))) else (none)) else (none)) else (if a0_0 = 1 then (some a0_1) else (if a0_0 = 4 then (some a0_1) else (some (⟨#[]⟩ : ByteArray)))))
theorem salchowref09_Spell.mono : ∀ a0 a1 a2 a3 k, LeO (salchowref09_Spell.f k a0 a1 a2 a3) (salchowref09_Spell.f (k + 1) a0 a1 a2 a3) := by
  intro a0 a1 a2 a3 k
  unfold salchowref09_Spell.f
  repeat' first
      | (with_reducible exact salchowref09_spell.mono _ _)
      | (with_reducible exact LeO.refl _)
      | (with_reducible exact LeO.none _)
      | (with_reducible refine LeO.ite ?_ ?_)
      | (with_reducible refine LeO.bind ?_ (fun _ => ?_))
      | exact salchowref09_spell.mono _ _
      | exact LeO.none _
      | refine LeO.ite ?_ ?_
      | refine LeO.bind ?_ (fun _ => ?_)
set_option maxHeartbeats 8000000 in
set_option maxRecDepth 100000 in
theorem salchowref09_Spell.calls (k : Nat) (a0_0 : Int) (a0_1 : ByteArray) (a0_2 : Int) (a0_3 : Int) (r : ByteArray) (w : World) (hG : Gl w) (h : salchowref09_Spell.f k a0_0 a0_1 a0_2 a0_3 = some r) :
    Calls Tryd.prog 38 #[.agg #[.int .i64 a0_0, .string a0_1, .int .i64 a0_2, .int .i64 a0_3]] w fun e w' => e = .returned (.string r) ∧ Below w.heap.size w w' := by
  have hu46 := Tryd.underlying46
  have HB := Aside0.mk (Below.refl w.heap.size w)
  have H : (if a0_0 = 2 then (if a0_2 ≥ 0 then (if a0_2 ≤ 1000000000 then ((salchowref09_spell.f k a0_2).bind fun t414 => (some t414)) else (some (⟨#[]⟩ : ByteArray))) else (some (⟨#[]⟩ : ByteArray))) else (if a0_0 = 3 then (if 1 + a0_1.size ≤ 9223372036854775807 then (if ((⟨#[34]⟩ : ByteArray) ++ a0_1).size + 1 ≤ 9223372036854775807 then (some (((⟨#[34]⟩ : ByteArray) ++ a0_1) ++ (⟨#[34]⟩ : ByteArray))) else (none)) else (none)) else (if a0_0 = 1 then (some a0_1) else (if a0_0 = 4 then (some a0_1) else (some (⟨#[]⟩ : ByteArray)))))) = some r := h
  clear h
  by_cases c2 : a0_0 = 2
  · rw [if_pos c2] at H
    have c2b0 : (a0_0 == 2) = true := beq_iff_eq.mpr c2
    have c2b1 : (a0_0 != 2) = false := bne_eq_false_iff_eq.mpr c2
    clear c2
    by_cases c3 : a0_2 ≥ 0
    · rw [if_pos c3] at H
      have c3b0 : decide (0 ≤ a0_2) = true := decide_eq_true c3
      clear c3
      by_cases c4 : a0_2 ≤ 1000000000
      · rw [if_pos c4] at H
        have c4b0 : decide (a0_2 ≤ 1000000000) = true := decide_eq_true c4
        clear c4
        replace H := Option.bind_eq_some_iff.mp H
        obtain ⟨t414, A50, H⟩ := H
        replace H : (some t414) = some r := H
        have A5 := Aside0.mk A50
        clear A50
        obtain rfl := Option.some.inj H
        go_enter Tryd.func38, Tryd.ntmps38
        go_wp2_with (first | ((with_reducible refine gate_dst (N := 1) rfl ?_); refine box_event ?hg (N := 1) ?hd (cs := #[.int .i64 a0_0, .string a0_1, .int .i64 a0_2, .int .i64 a0_3]) (t := 46) ?hr ?_; (case hd => rfl); (case hg => rfl); (case hr => first | (go_simp; done) | (go_simp; rfl)); intro gb413 hg w6 hbox hb; have n0_ := Aside0.mk (below_step (bl_ HB.out) hb); have n1_ := Aside0.mk (hbox); have n2_ := Aside0.mk ((by rw [hg]; exact (below_size (bl_ HB.out)) : w.heap.size ≤ gb413)); have n3_ := Aside0.mk ((by rw [hg]; exact (below_size (bl_ HB.out)) : w.heap.size ≤ gb413)); clear HB; have HB := n0_; have BK413 := n1_; have GW413 := n2_; have GE413 := n3_; clear n0_ n1_ n2_ n3_; clear hb hbox hg; have hcz7_0 : w6.cell? ⟨gb413, 0, none⟩ = some (.int .i64 a0_0) := (blk_cell BK413.out 0).trans rfl; have hcz7_1 : w6.cell? ⟨gb413, 1, none⟩ = some (.string a0_1) := (blk_cell BK413.out 1).trans rfl; have hcz7_2 : w6.cell? ⟨gb413, 2, none⟩ = some (.int .i64 a0_2) := (blk_cell BK413.out 2).trans rfl; have hcz7_3 : w6.cell? ⟨gb413, 3, none⟩ = some (.int .i64 a0_3) := (blk_cell BK413.out 3).trans rfl; have hfz7_0 := blk_frozen BK413.out 0; have hfz7_1 := blk_frozen BK413.out 1; have hfz7_2 := blk_frozen BK413.out 2; have hfz7_3 := blk_frozen BK413.out 3) | ((with_reducible refine gate_callee (f := 67) rfl ?_); refine goesL_ (some 17) rfl rfl Tryd.func67 (by kernel_rfl) rfl #[.int .i64 a0_2] rfl (by (try simp only [List.map_toArray, List.map_cons, List.map_nil]); first | done | rfl | (simp only [List.length_drop, List.length_take]; rfl)) ?_; (with_reducible refine (salchowref09_spell.calls k a0_2 t414 _ ?side1 A5.out).mono ?_); (case side1 => exact Gl.below hG (bl1_ HB.out GE413.out)); rintro e w8 ⟨rfl, hb⟩; refine ⟨_, rfl, ?_⟩; have n0_ := Aside0.mk (blk_below (g := gb413) (o := .cells #[.int .i64 a0_0, .string a0_1, .int .i64 a0_2, .int .i64 a0_3] 46 (0, 0)) (bk_ BK413.out) hb); have n1_ := Aside0.mk (below_step (bl1_ HB.out GE413.out) hb); clear BK413; clear HB; have BK413 := n0_; have HB := n1_; clear n0_ n1_; (try clear hb); (try clear hb2); (try clear hk); (try clear hi)))
        go_ret
        exact ⟨er_, bl1_ HB.out GE413.out⟩
      · rw [if_neg c4] at H
        have c4b0 : decide (a0_2 ≤ 1000000000) = false := decide_eq_false c4
        clear c4
        obtain rfl := Option.some.inj H
        go_enter Tryd.func38, Tryd.ntmps38
        go_wp2_with (first | ((with_reducible refine gate_dst (N := 1) rfl ?_); refine box_event ?hg (N := 1) ?hd (cs := #[.int .i64 a0_0, .string a0_1, .int .i64 a0_2, .int .i64 a0_3]) (t := 46) ?hr ?_; (case hd => rfl); (case hg => rfl); (case hr => first | (go_simp; done) | (go_simp; rfl)); intro gb413 hg w9 hbox hb; have n0_ := Aside0.mk (below_step (bl_ HB.out) hb); have n1_ := Aside0.mk (hbox); have n2_ := Aside0.mk ((by rw [hg]; exact (below_size (bl_ HB.out)) : w.heap.size ≤ gb413)); have n3_ := Aside0.mk ((by rw [hg]; exact (below_size (bl_ HB.out)) : w.heap.size ≤ gb413)); clear HB; have HB := n0_; have BK413 := n1_; have GW413 := n2_; have GE413 := n3_; clear n0_ n1_ n2_ n3_; clear hb hbox hg; have hcz10_0 : w9.cell? ⟨gb413, 0, none⟩ = some (.int .i64 a0_0) := (blk_cell BK413.out 0).trans rfl; have hcz10_1 : w9.cell? ⟨gb413, 1, none⟩ = some (.string a0_1) := (blk_cell BK413.out 1).trans rfl; have hcz10_2 : w9.cell? ⟨gb413, 2, none⟩ = some (.int .i64 a0_2) := (blk_cell BK413.out 2).trans rfl; have hcz10_3 : w9.cell? ⟨gb413, 3, none⟩ = some (.int .i64 a0_3) := (blk_cell BK413.out 3).trans rfl; have hfz10_0 := blk_frozen BK413.out 0; have hfz10_1 := blk_frozen BK413.out 1; have hfz10_2 := blk_frozen BK413.out 2; have hfz10_3 := blk_frozen BK413.out 3))
        go_ret
        exact ⟨er_, bl1_ HB.out GE413.out⟩
    · rw [if_neg c3] at H
      have c3b0 : decide (0 ≤ a0_2) = false := decide_eq_false c3
      clear c3
      obtain rfl := Option.some.inj H
      go_enter Tryd.func38, Tryd.ntmps38
      go_wp2_with (first | ((with_reducible refine gate_dst (N := 1) rfl ?_); refine box_event ?hg (N := 1) ?hd (cs := #[.int .i64 a0_0, .string a0_1, .int .i64 a0_2, .int .i64 a0_3]) (t := 46) ?hr ?_; (case hd => rfl); (case hg => rfl); (case hr => first | (go_simp; done) | (go_simp; rfl)); intro gb413 hg w11 hbox hb; have n0_ := Aside0.mk (below_step (bl_ HB.out) hb); have n1_ := Aside0.mk (hbox); have n2_ := Aside0.mk ((by rw [hg]; exact (below_size (bl_ HB.out)) : w.heap.size ≤ gb413)); have n3_ := Aside0.mk ((by rw [hg]; exact (below_size (bl_ HB.out)) : w.heap.size ≤ gb413)); clear HB; have HB := n0_; have BK413 := n1_; have GW413 := n2_; have GE413 := n3_; clear n0_ n1_ n2_ n3_; clear hb hbox hg; have hcz12_0 : w11.cell? ⟨gb413, 0, none⟩ = some (.int .i64 a0_0) := (blk_cell BK413.out 0).trans rfl; have hcz12_1 : w11.cell? ⟨gb413, 1, none⟩ = some (.string a0_1) := (blk_cell BK413.out 1).trans rfl; have hcz12_2 : w11.cell? ⟨gb413, 2, none⟩ = some (.int .i64 a0_2) := (blk_cell BK413.out 2).trans rfl; have hcz12_3 : w11.cell? ⟨gb413, 3, none⟩ = some (.int .i64 a0_3) := (blk_cell BK413.out 3).trans rfl; have hfz12_0 := blk_frozen BK413.out 0; have hfz12_1 := blk_frozen BK413.out 1; have hfz12_2 := blk_frozen BK413.out 2; have hfz12_3 := blk_frozen BK413.out 3))
      go_ret
      exact ⟨er_, bl1_ HB.out GE413.out⟩
  · rw [if_neg c2] at H
    have c2b0 : (a0_0 == 2) = false := beq_eq_false_iff_ne.mpr c2
    have c2b1 : (a0_0 != 2) = true := bne_iff_ne.mpr c2
    by_cases c13 : a0_0 = 3
    · rw [if_pos c13] at H
      have c13b0 : (a0_0 == 3) = true := beq_iff_eq.mpr c13
      have c13b1 : (a0_0 != 3) = false := bne_eq_false_iff_eq.mpr c13
      clear c13
      by_cases c14 : 1 + a0_1.size ≤ 9223372036854775807
      · rw [if_pos c14] at H
        have c14b0 := eq_true c14
        have c14b1 : decide (1 + a0_1.size ≤ 9223372036854775807) = true := decide_eq_true c14
        try have c14b2 : (9223372036854775807 < 1 + a0_1.size) = False := eq_false (Nat.not_lt.2 c14)
        by_cases c15 : ((⟨#[34]⟩ : ByteArray) ++ a0_1).size + 1 ≤ 9223372036854775807
        · rw [if_pos c15] at H
          have c15b0 := eq_true c15
          have c15b1 : decide (((⟨#[34]⟩ : ByteArray) ++ a0_1).size + 1 ≤ 9223372036854775807) = true := decide_eq_true c15
          (try (have c15b3 : (9223372036854775807 < 1 + a0_1.size + 1) = False := eq_false (Nat.not_lt.2 (by have h_ := c15; simp only [ByteArray.size_append] at h_; exact h_))))
          (try (have c15b4 : (1 + a0_1.size + 1 ≤ 9223372036854775807) = True := eq_true (by have h_ := c15; simp only [ByteArray.size_append] at h_; exact h_)))
          try have c15b2 : (9223372036854775807 < ((⟨#[34]⟩ : ByteArray) ++ a0_1).size + 1) = False := eq_false (Nat.not_lt.2 c15)
          obtain rfl := Option.some.inj H
          go_enter Tryd.func38, Tryd.ntmps38
          go_wp2_with (first | ((with_reducible refine gate_dst (N := 1) rfl ?_); refine box_event ?hg (N := 1) ?hd (cs := #[.int .i64 a0_0, .string a0_1, .int .i64 a0_2, .int .i64 a0_3]) (t := 46) ?hr ?_; (case hd => rfl); (case hg => rfl); (case hr => first | (go_simp; done) | (go_simp; rfl)); intro gb413 hg w16 hbox hb; have n0_ := Aside0.mk (below_step (bl_ HB.out) hb); have n1_ := Aside0.mk (hbox); have n2_ := Aside0.mk ((by rw [hg]; exact (below_size (bl_ HB.out)) : w.heap.size ≤ gb413)); have n3_ := Aside0.mk ((by rw [hg]; exact (below_size (bl_ HB.out)) : w.heap.size ≤ gb413)); clear HB; have HB := n0_; have BK413 := n1_; have GW413 := n2_; have GE413 := n3_; clear n0_ n1_ n2_ n3_; clear hb hbox hg; have hcz17_0 : w16.cell? ⟨gb413, 0, none⟩ = some (.int .i64 a0_0) := (blk_cell BK413.out 0).trans rfl; have hcz17_1 : w16.cell? ⟨gb413, 1, none⟩ = some (.string a0_1) := (blk_cell BK413.out 1).trans rfl; have hcz17_2 : w16.cell? ⟨gb413, 2, none⟩ = some (.int .i64 a0_2) := (blk_cell BK413.out 2).trans rfl; have hcz17_3 : w16.cell? ⟨gb413, 3, none⟩ = some (.int .i64 a0_3) := (blk_cell BK413.out 3).trans rfl; have hfz17_0 := blk_frozen BK413.out 0; have hfz17_1 := blk_frozen BK413.out 1; have hfz17_2 := blk_frozen BK413.out 2; have hfz17_3 := blk_frozen BK413.out 3))
          go_ret
          exact ⟨er_, bl1_ HB.out GE413.out⟩
        · rw [if_neg c15] at H
          exact absurd H (by simp)
      · rw [if_neg c14] at H
        exact absurd H (by simp)
    · rw [if_neg c13] at H
      have c13b0 : (a0_0 == 3) = false := beq_eq_false_iff_ne.mpr c13
      have c13b1 : (a0_0 != 3) = true := bne_iff_ne.mpr c13
      by_cases c18 : a0_0 = 1
      · rw [if_pos c18] at H
        have c18b0 : (a0_0 == 1) = true := beq_iff_eq.mpr c18
        have c18b1 : (a0_0 != 1) = false := bne_eq_false_iff_eq.mpr c18
        clear c18
        obtain rfl := Option.some.inj H
        go_enter Tryd.func38, Tryd.ntmps38
        go_wp2_with (first | ((with_reducible refine gate_dst (N := 1) rfl ?_); refine box_event ?hg (N := 1) ?hd (cs := #[.int .i64 a0_0, .string a0_1, .int .i64 a0_2, .int .i64 a0_3]) (t := 46) ?hr ?_; (case hd => rfl); (case hg => rfl); (case hr => first | (go_simp; done) | (go_simp; rfl)); intro gb413 hg w19 hbox hb; have n0_ := Aside0.mk (below_step (bl_ HB.out) hb); have n1_ := Aside0.mk (hbox); have n2_ := Aside0.mk ((by rw [hg]; exact (below_size (bl_ HB.out)) : w.heap.size ≤ gb413)); have n3_ := Aside0.mk ((by rw [hg]; exact (below_size (bl_ HB.out)) : w.heap.size ≤ gb413)); clear HB; have HB := n0_; have BK413 := n1_; have GW413 := n2_; have GE413 := n3_; clear n0_ n1_ n2_ n3_; clear hb hbox hg; have hcz20_0 : w19.cell? ⟨gb413, 0, none⟩ = some (.int .i64 a0_0) := (blk_cell BK413.out 0).trans rfl; have hcz20_1 : w19.cell? ⟨gb413, 1, none⟩ = some (.string a0_1) := (blk_cell BK413.out 1).trans rfl; have hcz20_2 : w19.cell? ⟨gb413, 2, none⟩ = some (.int .i64 a0_2) := (blk_cell BK413.out 2).trans rfl; have hcz20_3 : w19.cell? ⟨gb413, 3, none⟩ = some (.int .i64 a0_3) := (blk_cell BK413.out 3).trans rfl; have hfz20_0 := blk_frozen BK413.out 0; have hfz20_1 := blk_frozen BK413.out 1; have hfz20_2 := blk_frozen BK413.out 2; have hfz20_3 := blk_frozen BK413.out 3))
        go_ret
        exact ⟨er_, bl1_ HB.out GE413.out⟩
      · rw [if_neg c18] at H
        have c18b0 : (a0_0 == 1) = false := beq_eq_false_iff_ne.mpr c18
        have c18b1 : (a0_0 != 1) = true := bne_iff_ne.mpr c18
        by_cases c21 : a0_0 = 4
        · rw [if_pos c21] at H
          have c21b0 : (a0_0 == 4) = true := beq_iff_eq.mpr c21
          have c21b1 : (a0_0 != 4) = false := bne_eq_false_iff_eq.mpr c21
          clear c21
          obtain rfl := Option.some.inj H
          go_enter Tryd.func38, Tryd.ntmps38
          go_wp2_with (first | ((with_reducible refine gate_dst (N := 1) rfl ?_); refine box_event ?hg (N := 1) ?hd (cs := #[.int .i64 a0_0, .string a0_1, .int .i64 a0_2, .int .i64 a0_3]) (t := 46) ?hr ?_; (case hd => rfl); (case hg => rfl); (case hr => first | (go_simp; done) | (go_simp; rfl)); intro gb413 hg w22 hbox hb; have n0_ := Aside0.mk (below_step (bl_ HB.out) hb); have n1_ := Aside0.mk (hbox); have n2_ := Aside0.mk ((by rw [hg]; exact (below_size (bl_ HB.out)) : w.heap.size ≤ gb413)); have n3_ := Aside0.mk ((by rw [hg]; exact (below_size (bl_ HB.out)) : w.heap.size ≤ gb413)); clear HB; have HB := n0_; have BK413 := n1_; have GW413 := n2_; have GE413 := n3_; clear n0_ n1_ n2_ n3_; clear hb hbox hg; have hcz23_0 : w22.cell? ⟨gb413, 0, none⟩ = some (.int .i64 a0_0) := (blk_cell BK413.out 0).trans rfl; have hcz23_1 : w22.cell? ⟨gb413, 1, none⟩ = some (.string a0_1) := (blk_cell BK413.out 1).trans rfl; have hcz23_2 : w22.cell? ⟨gb413, 2, none⟩ = some (.int .i64 a0_2) := (blk_cell BK413.out 2).trans rfl; have hcz23_3 : w22.cell? ⟨gb413, 3, none⟩ = some (.int .i64 a0_3) := (blk_cell BK413.out 3).trans rfl; have hfz23_0 := blk_frozen BK413.out 0; have hfz23_1 := blk_frozen BK413.out 1; have hfz23_2 := blk_frozen BK413.out 2; have hfz23_3 := blk_frozen BK413.out 3))
          go_ret
          exact ⟨er_, bl1_ HB.out GE413.out⟩
        · rw [if_neg c21] at H
          have c21b0 : (a0_0 == 4) = false := beq_eq_false_iff_ne.mpr c21
          have c21b1 : (a0_0 != 4) = true := bne_iff_ne.mpr c21
          obtain rfl := Option.some.inj H
          go_enter Tryd.func38, Tryd.ntmps38
          go_wp2_with (first | ((with_reducible refine gate_dst (N := 1) rfl ?_); refine box_event ?hg (N := 1) ?hd (cs := #[.int .i64 a0_0, .string a0_1, .int .i64 a0_2, .int .i64 a0_3]) (t := 46) ?hr ?_; (case hd => rfl); (case hg => rfl); (case hr => first | (go_simp; done) | (go_simp; rfl)); intro gb413 hg w24 hbox hb; have n0_ := Aside0.mk (below_step (bl_ HB.out) hb); have n1_ := Aside0.mk (hbox); have n2_ := Aside0.mk ((by rw [hg]; exact (below_size (bl_ HB.out)) : w.heap.size ≤ gb413)); have n3_ := Aside0.mk ((by rw [hg]; exact (below_size (bl_ HB.out)) : w.heap.size ≤ gb413)); clear HB; have HB := n0_; have BK413 := n1_; have GW413 := n2_; have GE413 := n3_; clear n0_ n1_ n2_ n3_; clear hb hbox hg; have hcz25_0 : w24.cell? ⟨gb413, 0, none⟩ = some (.int .i64 a0_0) := (blk_cell BK413.out 0).trans rfl; have hcz25_1 : w24.cell? ⟨gb413, 1, none⟩ = some (.string a0_1) := (blk_cell BK413.out 1).trans rfl; have hcz25_2 : w24.cell? ⟨gb413, 2, none⟩ = some (.int .i64 a0_2) := (blk_cell BK413.out 2).trans rfl; have hcz25_3 : w24.cell? ⟨gb413, 3, none⟩ = some (.int .i64 a0_3) := (blk_cell BK413.out 3).trans rfl; have hfz25_0 := blk_frozen BK413.out 0; have hfz25_1 := blk_frozen BK413.out 1; have hfz25_2 := blk_frozen BK413.out 2; have hfz25_3 := blk_frozen BK413.out 3))
          go_ret
          exact ⟨er_, bl1_ HB.out GE413.out⟩
end Go.Proofs.YtkifdadhojbohaaDoor.Pr
namespace Go.Proofs.YtkifdadhojbohaaDoor.Pr
open Go.Proofs.YtkifdadhojbohaaDoor
open Go.RowKit Go.Proofs.YtkifdadhojbohaaDoorW.PrintWords Go.Proofs.YtkifdadhojbohaaDoorW.PrintLast Go.Proofs.YtkifdadhojbohaaDoorW.PrintMore
attribute [local go_sem] max2_int min2_int max_two min_two max_three min_three max_four min_four   -- for this text's walks alone
set_option linter.unusedVariables false
set_option linter.unusedSimpArgs false
attribute [local go_sem high] eqA46
/-! ### salchowref09_Valid: function 37 -/
def salchowref09_Valid.f (k : Nat) (a0_0 : Int) (a0_1 : ByteArray) (a0_2 : Int) (a0_3 : Int) : Option (Bool) := if a0_0 = 5 then (some (a0_0 == 5 && (a0_1.toList == ([] : List UInt8) && (a0_2 == 0)))) else ((salchowref09_Spell.f k a0_0 a0_1 a0_2 0).bind fun t416 => (if (t416.size : Int) = 0 then (some false) else (if (t416.size : Int) > 60 then (some false) else ((salchowref09_Token.f k t416 0).bind fun bt417 => (if bt417.2.2.2.2.2 = 0 then (if bt417.2.2.2.2.1 = (t416.size : Int) then (some (bt417.1 == a0_0 && (bt417.2.1.toList == a0_1.toList && (bt417.2.2.1 == a0_2 && (bt417.2.2.2.1 == 0))))) else (some false)) else (some false))))))
theorem salchowref09_Valid.mono : ∀ a0 a1 a2 a3 k, LeO (salchowref09_Valid.f k a0 a1 a2 a3) (salchowref09_Valid.f (k + 1) a0 a1 a2 a3) := by
  intro a0 a1 a2 a3 k
  unfold salchowref09_Valid.f
  repeat' first
      | (with_reducible exact salchowref09_Spell.mono _ _ _ _ _)
      | (with_reducible exact salchowref09_Token.mono _ _ _)
      | (with_reducible exact LeO.refl _)
      | (with_reducible exact LeO.none _)
      | (with_reducible refine LeO.ite ?_ ?_)
      | (with_reducible refine LeO.bind ?_ (fun _ => ?_))
      | exact salchowref09_Spell.mono _ _ _ _ _
      | exact salchowref09_Token.mono _ _ _
      | exact LeO.none _
      | refine LeO.ite ?_ ?_
      | refine LeO.bind ?_ (fun _ => ?_)
set_option maxHeartbeats 8000000 in
set_option maxRecDepth 100000 in
theorem salchowref09_Valid.calls (k : Nat) (a0_0 : Int) (a0_1 : ByteArray) (a0_2 : Int) (a0_3 : Int) (r : Bool) (w : World) (hG : Gl w) (h : salchowref09_Valid.f k a0_0 a0_1 a0_2 a0_3 = some r) :
    Calls Tryd.prog 37 #[.agg #[.int .i64 a0_0, .string a0_1, .int .i64 a0_2, .int .i64 a0_3]] w fun e w' => e = .returned (.bool r) ∧ Below w.heap.size w w' := by
  have hu46 := Tryd.underlying46
  have HB := Aside0.mk (Below.refl w.heap.size w)
  have H : (if a0_0 = 5 then (some (a0_0 == 5 && (a0_1.toList == ([] : List UInt8) && (a0_2 == 0)))) else ((salchowref09_Spell.f k a0_0 a0_1 a0_2 0).bind fun t416 => (if (t416.size : Int) = 0 then (some false) else (if (t416.size : Int) > 60 then (some false) else ((salchowref09_Token.f k t416 0).bind fun bt417 => (if bt417.2.2.2.2.2 = 0 then (if bt417.2.2.2.2.1 = (t416.size : Int) then (some (bt417.1 == a0_0 && (bt417.2.1.toList == a0_1.toList && (bt417.2.2.1 == a0_2 && (bt417.2.2.2.1 == 0))))) else (some false)) else (some false))))))) = some r := h
  clear h
  by_cases c2 : a0_0 = 5
  · rw [if_pos c2] at H
    have c2b0 : (a0_0 == 5) = true := beq_iff_eq.mpr c2
    have c2b1 : (a0_0 != 5) = false := bne_eq_false_iff_eq.mpr c2
    clear c2
    obtain rfl := Option.some.inj H
    go_enter Tryd.func37, Tryd.ntmps37
    go_wp2_with (first | ((with_reducible refine gate_dst (N := 1) rfl ?_); (try (refine gate_guard (by rfl) ?_; dsimp only)); refine box_event ?hg (N := 1) ?hd (cs := #[.int .i64 a0_0, .string a0_1, .int .i64 a0_2, .int .i64 a0_3]) (t := 46) ?hr ?_; (case hd => rfl); (case hg => rfl); (case hr => first | (go_simp; done) | (go_simp; rfl)); intro gb415 hg w3 hbox hb; have n0_ := Aside0.mk (below_step (bl_ HB.out) hb); have n1_ := Aside0.mk (hbox); have n2_ := Aside0.mk ((by rw [hg]; exact (below_size (bl_ HB.out)) : w.heap.size ≤ gb415)); have n3_ := Aside0.mk ((by rw [hg]; exact (below_size (bl_ HB.out)) : w.heap.size ≤ gb415)); clear HB; have HB := n0_; have BK415 := n1_; have GW415 := n2_; have GE415 := n3_; clear n0_ n1_ n2_ n3_; clear hb hbox hg; have hcz4_0 : w3.cell? ⟨gb415, 0, none⟩ = some (.int .i64 a0_0) := (blk_cell BK415.out 0).trans rfl; have hcz4_1 : w3.cell? ⟨gb415, 1, none⟩ = some (.string a0_1) := (blk_cell BK415.out 1).trans rfl; have hcz4_2 : w3.cell? ⟨gb415, 2, none⟩ = some (.int .i64 a0_2) := (blk_cell BK415.out 2).trans rfl; have hcz4_3 : w3.cell? ⟨gb415, 3, none⟩ = some (.int .i64 a0_3) := (blk_cell BK415.out 3).trans rfl; have hfz4_0 := blk_frozen BK415.out 0; have hfz4_1 := blk_frozen BK415.out 1; have hfz4_2 := blk_frozen BK415.out 2; have hfz4_3 := blk_frozen BK415.out 3))
    go_ret
    exact ⟨er_, bl1_ HB.out GE415.out⟩
  · rw [if_neg c2] at H
    have c2b0 : (a0_0 == 5) = false := beq_eq_false_iff_ne.mpr c2
    have c2b1 : (a0_0 != 5) = true := bne_iff_ne.mpr c2
    replace H := Option.bind_eq_some_iff.mp H
    obtain ⟨t416, A50, H⟩ := H
    replace H : (if (t416.size : Int) = 0 then (some false) else (if (t416.size : Int) > 60 then (some false) else ((salchowref09_Token.f k t416 0).bind fun bt417 => (if bt417.2.2.2.2.2 = 0 then (if bt417.2.2.2.2.1 = (t416.size : Int) then (some (bt417.1 == a0_0 && (bt417.2.1.toList == a0_1.toList && (bt417.2.2.1 == a0_2 && (bt417.2.2.2.1 == 0))))) else (some false)) else (some false))))) = some r := H
    have A5 := Aside0.mk A50
    clear A50
    by_cases c6 : (t416.size : Int) = 0
    · rw [if_pos c6] at H
      have c6b0 : ((t416.size : Int) == 0) = true := beq_iff_eq.mpr c6
      have c6b1 : ((t416.size : Int) != 0) = false := bne_eq_false_iff_eq.mpr c6
      clear c6
      obtain rfl := Option.some.inj H
      go_enter Tryd.func37, Tryd.ntmps37
      go_wp2_with (first | ((with_reducible refine gate_dst (N := 1) rfl ?_); (try (refine gate_guard (by rfl) ?_; dsimp only)); refine box_event ?hg (N := 1) ?hd (cs := #[.int .i64 a0_0, .string a0_1, .int .i64 a0_2, .int .i64 a0_3]) (t := 46) ?hr ?_; (case hd => rfl); (case hg => rfl); (case hr => first | (go_simp; done) | (go_simp; rfl)); intro gb415 hg w7 hbox hb; have n0_ := Aside0.mk (below_step (bl_ HB.out) hb); have n1_ := Aside0.mk (hbox); have n2_ := Aside0.mk ((by rw [hg]; exact (below_size (bl_ HB.out)) : w.heap.size ≤ gb415)); have n3_ := Aside0.mk ((by rw [hg]; exact (below_size (bl_ HB.out)) : w.heap.size ≤ gb415)); clear HB; have HB := n0_; have BK415 := n1_; have GW415 := n2_; have GE415 := n3_; clear n0_ n1_ n2_ n3_; clear hb hbox hg; have hcz8_0 : w7.cell? ⟨gb415, 0, none⟩ = some (.int .i64 a0_0) := (blk_cell BK415.out 0).trans rfl; have hcz8_1 : w7.cell? ⟨gb415, 1, none⟩ = some (.string a0_1) := (blk_cell BK415.out 1).trans rfl; have hcz8_2 : w7.cell? ⟨gb415, 2, none⟩ = some (.int .i64 a0_2) := (blk_cell BK415.out 2).trans rfl; have hcz8_3 : w7.cell? ⟨gb415, 3, none⟩ = some (.int .i64 a0_3) := (blk_cell BK415.out 3).trans rfl; have hfz8_0 := blk_frozen BK415.out 0; have hfz8_1 := blk_frozen BK415.out 1; have hfz8_2 := blk_frozen BK415.out 2; have hfz8_3 := blk_frozen BK415.out 3) | ((with_reducible refine gate_callee (f := 38) rfl ?_); refine goesL_ (some 15) rfl rfl Tryd.func38 (by kernel_rfl) rfl #[.agg #[.int .i64 a0_0, .string a0_1, .int .i64 a0_2, .int .i64 0]] rfl (by (try simp only [List.map_toArray, List.map_cons, List.map_nil]); first | done | rfl | (simp only [List.length_drop, List.length_take]; rfl)) ?_; (with_reducible refine (salchowref09_Spell.calls k a0_0 a0_1 a0_2 0 t416 _ ?side1 A5.out).mono ?_); (case side1 => exact Gl.below hG (bl1_ HB.out GE415.out)); rintro e w9 ⟨rfl, hb⟩; refine ⟨_, rfl, ?_⟩; have n0_ := Aside0.mk (blk_below (g := gb415) (o := .cells #[.int .i64 a0_0, .string a0_1, .int .i64 a0_2, .int .i64 0] 46 (0, 0)) (by (with_reducible repeat (first | refine blk_drewN ?_ _ | refine blk_drew ?_ | refine blk_alloc ?_ _)); refine blk_put (cs := #[.int .i64 a0_0, .string a0_1, .int .i64 a0_2, .int .i64 a0_3]) ?_ 3 _ rfl; (with_reducible repeat (first | refine blk_drewN ?_ _ | refine blk_drew ?_ | refine blk_alloc ?_ _)); exact BK415.out) hb); have n1_ := Aside0.mk (below_step (bl1_ HB.out GE415.out) hb); clear BK415; clear HB; have BK415 := n0_; have HB := n1_; clear n0_ n1_; (try clear hb); (try clear hb2); (try clear hk); (try clear hi)))
      go_ret
      exact ⟨er_, bl1_ HB.out GE415.out⟩
    · rw [if_neg c6] at H
      have c6b0 : ((t416.size : Int) == 0) = false := beq_eq_false_iff_ne.mpr c6
      have c6b1 : ((t416.size : Int) != 0) = true := bne_iff_ne.mpr c6
      by_cases c10 : (t416.size : Int) > 60
      · rw [if_pos c10] at H
        have c10b0 : decide (60 < (t416.size : Int)) = true := decide_eq_true c10
        have c10b1 : decide (60 < t416.size) = true := decide_eq_true (by omega)
        clear c10
        obtain rfl := Option.some.inj H
        go_enter Tryd.func37, Tryd.ntmps37
        go_wp2_with (first | ((with_reducible refine gate_dst (N := 1) rfl ?_); (try (refine gate_guard (by rfl) ?_; dsimp only)); refine box_event ?hg (N := 1) ?hd (cs := #[.int .i64 a0_0, .string a0_1, .int .i64 a0_2, .int .i64 a0_3]) (t := 46) ?hr ?_; (case hd => rfl); (case hg => rfl); (case hr => first | (go_simp; done) | (go_simp; rfl)); intro gb415 hg w11 hbox hb; have n0_ := Aside0.mk (below_step (bl_ HB.out) hb); have n1_ := Aside0.mk (hbox); have n2_ := Aside0.mk ((by rw [hg]; exact (below_size (bl_ HB.out)) : w.heap.size ≤ gb415)); have n3_ := Aside0.mk ((by rw [hg]; exact (below_size (bl_ HB.out)) : w.heap.size ≤ gb415)); clear HB; have HB := n0_; have BK415 := n1_; have GW415 := n2_; have GE415 := n3_; clear n0_ n1_ n2_ n3_; clear hb hbox hg; have hcz12_0 : w11.cell? ⟨gb415, 0, none⟩ = some (.int .i64 a0_0) := (blk_cell BK415.out 0).trans rfl; have hcz12_1 : w11.cell? ⟨gb415, 1, none⟩ = some (.string a0_1) := (blk_cell BK415.out 1).trans rfl; have hcz12_2 : w11.cell? ⟨gb415, 2, none⟩ = some (.int .i64 a0_2) := (blk_cell BK415.out 2).trans rfl; have hcz12_3 : w11.cell? ⟨gb415, 3, none⟩ = some (.int .i64 a0_3) := (blk_cell BK415.out 3).trans rfl; have hfz12_0 := blk_frozen BK415.out 0; have hfz12_1 := blk_frozen BK415.out 1; have hfz12_2 := blk_frozen BK415.out 2; have hfz12_3 := blk_frozen BK415.out 3) | ((with_reducible refine gate_callee (f := 38) rfl ?_); refine goesL_ (some 15) rfl rfl Tryd.func38 (by kernel_rfl) rfl #[.agg #[.int .i64 a0_0, .string a0_1, .int .i64 a0_2, .int .i64 0]] rfl (by (try simp only [List.map_toArray, List.map_cons, List.map_nil]); first | done | rfl | (simp only [List.length_drop, List.length_take]; rfl)) ?_; (with_reducible refine (salchowref09_Spell.calls k a0_0 a0_1 a0_2 0 t416 _ ?side1 A5.out).mono ?_); (case side1 => exact Gl.below hG (bl1_ HB.out GE415.out)); rintro e w13 ⟨rfl, hb⟩; refine ⟨_, rfl, ?_⟩; have n0_ := Aside0.mk (blk_below (g := gb415) (o := .cells #[.int .i64 a0_0, .string a0_1, .int .i64 a0_2, .int .i64 0] 46 (0, 0)) (by (with_reducible repeat (first | refine blk_drewN ?_ _ | refine blk_drew ?_ | refine blk_alloc ?_ _)); refine blk_put (cs := #[.int .i64 a0_0, .string a0_1, .int .i64 a0_2, .int .i64 a0_3]) ?_ 3 _ rfl; (with_reducible repeat (first | refine blk_drewN ?_ _ | refine blk_drew ?_ | refine blk_alloc ?_ _)); exact BK415.out) hb); have n1_ := Aside0.mk (below_step (bl1_ HB.out GE415.out) hb); clear BK415; clear HB; have BK415 := n0_; have HB := n1_; clear n0_ n1_; (try clear hb); (try clear hb2); (try clear hk); (try clear hi)))
        go_ret
        exact ⟨er_, bl1_ HB.out GE415.out⟩
      · rw [if_neg c10] at H
        have c10b0 : decide (60 < (t416.size : Int)) = false := decide_eq_false c10
        have c10b1 : decide (60 < t416.size) = false := decide_eq_false (by omega)
        clear c10
        replace H := Option.bind_eq_some_iff.mp H
        obtain ⟨⟨t417, t418, t419, t420, t421, t422⟩, A140, H⟩ := H
        replace H : (if t422 = 0 then (if t421 = (t416.size : Int) then (some (t417 == a0_0 && (t418.toList == a0_1.toList && (t419 == a0_2 && (t420 == 0))))) else (some false)) else (some false)) = some r := H
        have A14 := Aside0.mk A140
        clear A140
        by_cases c15 : t422 = 0
        · rw [if_pos c15] at H
          have c15b0 : (t422 == 0) = true := beq_iff_eq.mpr c15
          have c15b1 : (t422 != 0) = false := bne_eq_false_iff_eq.mpr c15
          clear c15
          by_cases c16 : t421 = (t416.size : Int)
          · rw [if_pos c16] at H
            have c16b0 : (t421 == (t416.size : Int)) = true := beq_iff_eq.mpr c16
            have c16b1 : (t421 != (t416.size : Int)) = false := bne_eq_false_iff_eq.mpr c16
            clear c16
            obtain rfl := Option.some.inj H
            go_enter Tryd.func37, Tryd.ntmps37
            go_wp2_with (first | ((with_reducible refine gate_dst (N := 1) rfl ?_); (try (refine gate_guard (by rfl) ?_; dsimp only)); refine box_event ?hg (N := 1) ?hd (cs := #[.int .i64 a0_0, .string a0_1, .int .i64 a0_2, .int .i64 a0_3]) (t := 46) ?hr ?_; (case hd => rfl); (case hg => rfl); (case hr => first | (go_simp; done) | (go_simp; rfl)); intro gb415 hg w17 hbox hb; have n0_ := Aside0.mk (below_step (bl_ HB.out) hb); have n1_ := Aside0.mk (hbox); have n2_ := Aside0.mk ((by rw [hg]; exact (below_size (bl_ HB.out)) : w.heap.size ≤ gb415)); have n3_ := Aside0.mk ((by rw [hg]; exact (below_size (bl_ HB.out)) : w.heap.size ≤ gb415)); clear HB; have HB := n0_; have BK415 := n1_; have GW415 := n2_; have GE415 := n3_; clear n0_ n1_ n2_ n3_; clear hb hbox hg; have hcz18_0 : w17.cell? ⟨gb415, 0, none⟩ = some (.int .i64 a0_0) := (blk_cell BK415.out 0).trans rfl; have hcz18_1 : w17.cell? ⟨gb415, 1, none⟩ = some (.string a0_1) := (blk_cell BK415.out 1).trans rfl; have hcz18_2 : w17.cell? ⟨gb415, 2, none⟩ = some (.int .i64 a0_2) := (blk_cell BK415.out 2).trans rfl; have hcz18_3 : w17.cell? ⟨gb415, 3, none⟩ = some (.int .i64 a0_3) := (blk_cell BK415.out 3).trans rfl; have hfz18_0 := blk_frozen BK415.out 0; have hfz18_1 := blk_frozen BK415.out 1; have hfz18_2 := blk_frozen BK415.out 2; have hfz18_3 := blk_frozen BK415.out 3) | ((with_reducible refine gate_callee (f := 38) rfl ?_); refine goesL_ (some 15) rfl rfl Tryd.func38 (by kernel_rfl) rfl #[.agg #[.int .i64 a0_0, .string a0_1, .int .i64 a0_2, .int .i64 0]] rfl (by (try simp only [List.map_toArray, List.map_cons, List.map_nil]); first | done | rfl | (simp only [List.length_drop, List.length_take]; rfl)) ?_; (with_reducible refine (salchowref09_Spell.calls k a0_0 a0_1 a0_2 0 t416 _ ?side1 A5.out).mono ?_); (case side1 => exact Gl.below hG (bl1_ HB.out GE415.out)); rintro e w19 ⟨rfl, hb⟩; refine ⟨_, rfl, ?_⟩; have n0_ := Aside0.mk (blk_below (g := gb415) (o := .cells #[.int .i64 a0_0, .string a0_1, .int .i64 a0_2, .int .i64 0] 46 (0, 0)) (by (with_reducible repeat (first | refine blk_drewN ?_ _ | refine blk_drew ?_ | refine blk_alloc ?_ _)); refine blk_put (cs := #[.int .i64 a0_0, .string a0_1, .int .i64 a0_2, .int .i64 a0_3]) ?_ 3 _ rfl; (with_reducible repeat (first | refine blk_drewN ?_ _ | refine blk_drew ?_ | refine blk_alloc ?_ _)); exact BK415.out) hb); have n1_ := Aside0.mk (below_step (bl1_ HB.out GE415.out) hb); clear BK415; clear HB; have BK415 := n0_; have HB := n1_; clear n0_ n1_; (try clear hb); (try clear hb2); (try clear hk); (try clear hi)) | ((with_reducible refine gate_callee (f := 66) rfl ?_); refine goesL_ (some 26) rfl rfl Tryd.func66 (by kernel_rfl) rfl #[.string t416, .int .i64 0] rfl (by (try simp only [List.map_toArray, List.map_cons, List.map_nil]); first | done | rfl | (simp only [List.length_drop, List.length_take]; rfl)) ?_; (with_reducible refine (salchowref09_Token.calls k t416 0 t417 t418 t419 t420 t421 t422 _ A14.out).mono ?_); rintro e w20 ⟨rfl, hb⟩; refine ⟨_, rfl, ?_⟩; have n0_ := Aside0.mk (blk_below (g := gb415) (o := .cells #[.int .i64 a0_0, .string a0_1, .int .i64 a0_2, .int .i64 0] 46 (0, 0)) (bk_ BK415.out) hb); have n1_ := Aside0.mk (below_step (bl1_ HB.out GE415.out) hb); clear BK415; clear HB; have BK415 := n0_; have HB := n1_; clear n0_ n1_; (try clear hb); (try clear hb2); (try clear hk); (try clear hi)) | ((with_reducible refine gate_dst (N := 4) rfl ?_); (try (refine gate_guard (by rfl) ?_; dsimp only)); refine box_event ?hg (N := 4) ?hd (cs := #[.int .i64 0, .string (⟨#[]⟩ : ByteArray), .int .i64 0, .int .i64 0]) (t := 46) ?hr ?_; (case hd => rfl); (case hg => rfl); (case hr => first | (go_simp; done) | (go_simp; rfl)); intro gb423 hg w21 hbox hb; have n0_ := Aside0.mk (blk_below (g := gb415) (o := .cells #[.int .i64 a0_0, .string a0_1, .int .i64 a0_2, .int .i64 0] 46 (0, 0)) (bk_ BK415.out) hb); have n1_ := Aside0.mk (below_step (bl1_ HB.out GE415.out) hb); have n2_ := Aside0.mk (hbox); have n3_ := Aside0.mk ((by rw [hg]; exact (below_size (bl1_ HB.out GE415.out)) : w.heap.size ≤ gb423)); have n4_ := Aside0.mk ((by rw [hg]; exact (below_size (bl1_ HB.out GE415.out)) : w.heap.size ≤ gb423)); have n5_ := Aside0.mk ((by rw [hg]; exact Nat.ne_of_lt (blk_lt (g := gb415) (o := .cells #[.int .i64 a0_0, .string a0_1, .int .i64 a0_2, .int .i64 0] 46 (0, 0)) (bk_ BK415.out)) : gb415 ≠ gb423)); have n6_ := Aside0.mk ((by rw [hg]; exact Nat.ne_of_gt (blk_lt (g := gb415) (o := .cells #[.int .i64 a0_0, .string a0_1, .int .i64 a0_2, .int .i64 0] 46 (0, 0)) (bk_ BK415.out)) : gb423 ≠ gb415)); clear BK415; clear HB; have BK415 := n0_; have HB := n1_; have BK423 := n2_; have GW423 := n3_; have GE423 := n4_; have NB415_423 := n5_; have NB423_415 := n6_; clear n0_ n1_ n2_ n3_ n4_ n5_ n6_; clear hb hbox hg; have hnb22 := NB423_415.out; have hnc22 := NB415_423.out; have hcz23_0 : w21.cell? ⟨gb423, 0, none⟩ = some (.int .i64 0) := (blk_cell BK423.out 0).trans rfl; have hcz23_1 : w21.cell? ⟨gb423, 1, none⟩ = some (.string (⟨#[]⟩ : ByteArray)) := (blk_cell BK423.out 1).trans rfl; have hcz23_2 : w21.cell? ⟨gb423, 2, none⟩ = some (.int .i64 0) := (blk_cell BK423.out 2).trans rfl; have hcz23_3 : w21.cell? ⟨gb423, 3, none⟩ = some (.int .i64 0) := (blk_cell BK423.out 3).trans rfl; have hfz23_0 := blk_frozen BK423.out 0; have hfz23_1 := blk_frozen BK423.out 1; have hfz23_2 := blk_frozen BK423.out 2; have hfz23_3 := blk_frozen BK423.out 3; have hcz24_0 : w21.cell? ⟨gb415, 0, none⟩ = some (.int .i64 a0_0) := (blk_cell BK415.out 0).trans rfl; have hcz24_1 : w21.cell? ⟨gb415, 1, none⟩ = some (.string a0_1) := (blk_cell BK415.out 1).trans rfl; have hcz24_2 : w21.cell? ⟨gb415, 2, none⟩ = some (.int .i64 a0_2) := (blk_cell BK415.out 2).trans rfl; have hcz24_3 : w21.cell? ⟨gb415, 3, none⟩ = some (.int .i64 0) := (blk_cell BK415.out 3).trans rfl; have hfz24_0 := blk_frozen BK415.out 0; have hfz24_1 := blk_frozen BK415.out 1; have hfz24_2 := blk_frozen BK415.out 2; have hfz24_3 := blk_frozen BK415.out 3))
            go_ret
            exact ⟨er_, bl2_ HB.out GE415.out GE423.out⟩
          · rw [if_neg c16] at H
            have c16b0 : (t421 == (t416.size : Int)) = false := beq_eq_false_iff_ne.mpr c16
            have c16b1 : (t421 != (t416.size : Int)) = true := bne_iff_ne.mpr c16
            obtain rfl := Option.some.inj H
            go_enter Tryd.func37, Tryd.ntmps37
            go_wp2_with (first | ((with_reducible refine gate_dst (N := 1) rfl ?_); (try (refine gate_guard (by rfl) ?_; dsimp only)); refine box_event ?hg (N := 1) ?hd (cs := #[.int .i64 a0_0, .string a0_1, .int .i64 a0_2, .int .i64 a0_3]) (t := 46) ?hr ?_; (case hd => rfl); (case hg => rfl); (case hr => first | (go_simp; done) | (go_simp; rfl)); intro gb415 hg w25 hbox hb; have n0_ := Aside0.mk (below_step (bl_ HB.out) hb); have n1_ := Aside0.mk (hbox); have n2_ := Aside0.mk ((by rw [hg]; exact (below_size (bl_ HB.out)) : w.heap.size ≤ gb415)); have n3_ := Aside0.mk ((by rw [hg]; exact (below_size (bl_ HB.out)) : w.heap.size ≤ gb415)); clear HB; have HB := n0_; have BK415 := n1_; have GW415 := n2_; have GE415 := n3_; clear n0_ n1_ n2_ n3_; clear hb hbox hg; have hcz26_0 : w25.cell? ⟨gb415, 0, none⟩ = some (.int .i64 a0_0) := (blk_cell BK415.out 0).trans rfl; have hcz26_1 : w25.cell? ⟨gb415, 1, none⟩ = some (.string a0_1) := (blk_cell BK415.out 1).trans rfl; have hcz26_2 : w25.cell? ⟨gb415, 2, none⟩ = some (.int .i64 a0_2) := (blk_cell BK415.out 2).trans rfl; have hcz26_3 : w25.cell? ⟨gb415, 3, none⟩ = some (.int .i64 a0_3) := (blk_cell BK415.out 3).trans rfl; have hfz26_0 := blk_frozen BK415.out 0; have hfz26_1 := blk_frozen BK415.out 1; have hfz26_2 := blk_frozen BK415.out 2; have hfz26_3 := blk_frozen BK415.out 3) | ((with_reducible refine gate_callee (f := 38) rfl ?_); refine goesL_ (some 15) rfl rfl Tryd.func38 (by kernel_rfl) rfl #[.agg #[.int .i64 a0_0, .string a0_1, .int .i64 a0_2, .int .i64 0]] rfl (by (try simp only [List.map_toArray, List.map_cons, List.map_nil]); first | done | rfl | (simp only [List.length_drop, List.length_take]; rfl)) ?_; (with_reducible refine (salchowref09_Spell.calls k a0_0 a0_1 a0_2 0 t416 _ ?side1 A5.out).mono ?_); (case side1 => exact Gl.below hG (bl1_ HB.out GE415.out)); rintro e w27 ⟨rfl, hb⟩; refine ⟨_, rfl, ?_⟩; have n0_ := Aside0.mk (blk_below (g := gb415) (o := .cells #[.int .i64 a0_0, .string a0_1, .int .i64 a0_2, .int .i64 0] 46 (0, 0)) (by (with_reducible repeat (first | refine blk_drewN ?_ _ | refine blk_drew ?_ | refine blk_alloc ?_ _)); refine blk_put (cs := #[.int .i64 a0_0, .string a0_1, .int .i64 a0_2, .int .i64 a0_3]) ?_ 3 _ rfl; (with_reducible repeat (first | refine blk_drewN ?_ _ | refine blk_drew ?_ | refine blk_alloc ?_ _)); exact BK415.out) hb); have n1_ := Aside0.mk (below_step (bl1_ HB.out GE415.out) hb); clear BK415; clear HB; have BK415 := n0_; have HB := n1_; clear n0_ n1_; (try clear hb); (try clear hb2); (try clear hk); (try clear hi)) | ((with_reducible refine gate_callee (f := 66) rfl ?_); refine goesL_ (some 26) rfl rfl Tryd.func66 (by kernel_rfl) rfl #[.string t416, .int .i64 0] rfl (by (try simp only [List.map_toArray, List.map_cons, List.map_nil]); first | done | rfl | (simp only [List.length_drop, List.length_take]; rfl)) ?_; (with_reducible refine (salchowref09_Token.calls k t416 0 t417 t418 t419 t420 t421 t422 _ A14.out).mono ?_); rintro e w28 ⟨rfl, hb⟩; refine ⟨_, rfl, ?_⟩; have n0_ := Aside0.mk (blk_below (g := gb415) (o := .cells #[.int .i64 a0_0, .string a0_1, .int .i64 a0_2, .int .i64 0] 46 (0, 0)) (bk_ BK415.out) hb); have n1_ := Aside0.mk (below_step (bl1_ HB.out GE415.out) hb); clear BK415; clear HB; have BK415 := n0_; have HB := n1_; clear n0_ n1_; (try clear hb); (try clear hb2); (try clear hk); (try clear hi)) | ((with_reducible refine gate_dst (N := 4) rfl ?_); (try (refine gate_guard (by rfl) ?_; dsimp only)); refine box_event ?hg (N := 4) ?hd (cs := #[.int .i64 0, .string (⟨#[]⟩ : ByteArray), .int .i64 0, .int .i64 0]) (t := 46) ?hr ?_; (case hd => rfl); (case hg => rfl); (case hr => first | (go_simp; done) | (go_simp; rfl)); intro gb423 hg w29 hbox hb; have n0_ := Aside0.mk (blk_below (g := gb415) (o := .cells #[.int .i64 a0_0, .string a0_1, .int .i64 a0_2, .int .i64 0] 46 (0, 0)) (bk_ BK415.out) hb); have n1_ := Aside0.mk (below_step (bl1_ HB.out GE415.out) hb); have n2_ := Aside0.mk (hbox); have n3_ := Aside0.mk ((by rw [hg]; exact (below_size (bl1_ HB.out GE415.out)) : w.heap.size ≤ gb423)); have n4_ := Aside0.mk ((by rw [hg]; exact (below_size (bl1_ HB.out GE415.out)) : w.heap.size ≤ gb423)); have n5_ := Aside0.mk ((by rw [hg]; exact Nat.ne_of_lt (blk_lt (g := gb415) (o := .cells #[.int .i64 a0_0, .string a0_1, .int .i64 a0_2, .int .i64 0] 46 (0, 0)) (bk_ BK415.out)) : gb415 ≠ gb423)); have n6_ := Aside0.mk ((by rw [hg]; exact Nat.ne_of_gt (blk_lt (g := gb415) (o := .cells #[.int .i64 a0_0, .string a0_1, .int .i64 a0_2, .int .i64 0] 46 (0, 0)) (bk_ BK415.out)) : gb423 ≠ gb415)); clear BK415; clear HB; have BK415 := n0_; have HB := n1_; have BK423 := n2_; have GW423 := n3_; have GE423 := n4_; have NB415_423 := n5_; have NB423_415 := n6_; clear n0_ n1_ n2_ n3_ n4_ n5_ n6_; clear hb hbox hg; have hnb30 := NB423_415.out; have hnc30 := NB415_423.out; have hcz31_0 : w29.cell? ⟨gb423, 0, none⟩ = some (.int .i64 0) := (blk_cell BK423.out 0).trans rfl; have hcz31_1 : w29.cell? ⟨gb423, 1, none⟩ = some (.string (⟨#[]⟩ : ByteArray)) := (blk_cell BK423.out 1).trans rfl; have hcz31_2 : w29.cell? ⟨gb423, 2, none⟩ = some (.int .i64 0) := (blk_cell BK423.out 2).trans rfl; have hcz31_3 : w29.cell? ⟨gb423, 3, none⟩ = some (.int .i64 0) := (blk_cell BK423.out 3).trans rfl; have hfz31_0 := blk_frozen BK423.out 0; have hfz31_1 := blk_frozen BK423.out 1; have hfz31_2 := blk_frozen BK423.out 2; have hfz31_3 := blk_frozen BK423.out 3))
            go_ret
            exact ⟨er_, bl2_ HB.out GE415.out GE423.out⟩
        · rw [if_neg c15] at H
          have c15b0 : (t422 == 0) = false := beq_eq_false_iff_ne.mpr c15
          have c15b1 : (t422 != 0) = true := bne_iff_ne.mpr c15
          obtain rfl := Option.some.inj H
          go_enter Tryd.func37, Tryd.ntmps37
          go_wp2_with (first | ((with_reducible refine gate_dst (N := 1) rfl ?_); (try (refine gate_guard (by rfl) ?_; dsimp only)); refine box_event ?hg (N := 1) ?hd (cs := #[.int .i64 a0_0, .string a0_1, .int .i64 a0_2, .int .i64 a0_3]) (t := 46) ?hr ?_; (case hd => rfl); (case hg => rfl); (case hr => first | (go_simp; done) | (go_simp; rfl)); intro gb415 hg w32 hbox hb; have n0_ := Aside0.mk (below_step (bl_ HB.out) hb); have n1_ := Aside0.mk (hbox); have n2_ := Aside0.mk ((by rw [hg]; exact (below_size (bl_ HB.out)) : w.heap.size ≤ gb415)); have n3_ := Aside0.mk ((by rw [hg]; exact (below_size (bl_ HB.out)) : w.heap.size ≤ gb415)); clear HB; have HB := n0_; have BK415 := n1_; have GW415 := n2_; have GE415 := n3_; clear n0_ n1_ n2_ n3_; clear hb hbox hg; have hcz33_0 : w32.cell? ⟨gb415, 0, none⟩ = some (.int .i64 a0_0) := (blk_cell BK415.out 0).trans rfl; have hcz33_1 : w32.cell? ⟨gb415, 1, none⟩ = some (.string a0_1) := (blk_cell BK415.out 1).trans rfl; have hcz33_2 : w32.cell? ⟨gb415, 2, none⟩ = some (.int .i64 a0_2) := (blk_cell BK415.out 2).trans rfl; have hcz33_3 : w32.cell? ⟨gb415, 3, none⟩ = some (.int .i64 a0_3) := (blk_cell BK415.out 3).trans rfl; have hfz33_0 := blk_frozen BK415.out 0; have hfz33_1 := blk_frozen BK415.out 1; have hfz33_2 := blk_frozen BK415.out 2; have hfz33_3 := blk_frozen BK415.out 3) | ((with_reducible refine gate_callee (f := 38) rfl ?_); refine goesL_ (some 15) rfl rfl Tryd.func38 (by kernel_rfl) rfl #[.agg #[.int .i64 a0_0, .string a0_1, .int .i64 a0_2, .int .i64 0]] rfl (by (try simp only [List.map_toArray, List.map_cons, List.map_nil]); first | done | rfl | (simp only [List.length_drop, List.length_take]; rfl)) ?_; (with_reducible refine (salchowref09_Spell.calls k a0_0 a0_1 a0_2 0 t416 _ ?side1 A5.out).mono ?_); (case side1 => exact Gl.below hG (bl1_ HB.out GE415.out)); rintro e w34 ⟨rfl, hb⟩; refine ⟨_, rfl, ?_⟩; have n0_ := Aside0.mk (blk_below (g := gb415) (o := .cells #[.int .i64 a0_0, .string a0_1, .int .i64 a0_2, .int .i64 0] 46 (0, 0)) (by (with_reducible repeat (first | refine blk_drewN ?_ _ | refine blk_drew ?_ | refine blk_alloc ?_ _)); refine blk_put (cs := #[.int .i64 a0_0, .string a0_1, .int .i64 a0_2, .int .i64 a0_3]) ?_ 3 _ rfl; (with_reducible repeat (first | refine blk_drewN ?_ _ | refine blk_drew ?_ | refine blk_alloc ?_ _)); exact BK415.out) hb); have n1_ := Aside0.mk (below_step (bl1_ HB.out GE415.out) hb); clear BK415; clear HB; have BK415 := n0_; have HB := n1_; clear n0_ n1_; (try clear hb); (try clear hb2); (try clear hk); (try clear hi)) | ((with_reducible refine gate_callee (f := 66) rfl ?_); refine goesL_ (some 26) rfl rfl Tryd.func66 (by kernel_rfl) rfl #[.string t416, .int .i64 0] rfl (by (try simp only [List.map_toArray, List.map_cons, List.map_nil]); first | done | rfl | (simp only [List.length_drop, List.length_take]; rfl)) ?_; (with_reducible refine (salchowref09_Token.calls k t416 0 t417 t418 t419 t420 t421 t422 _ A14.out).mono ?_); rintro e w35 ⟨rfl, hb⟩; refine ⟨_, rfl, ?_⟩; have n0_ := Aside0.mk (blk_below (g := gb415) (o := .cells #[.int .i64 a0_0, .string a0_1, .int .i64 a0_2, .int .i64 0] 46 (0, 0)) (bk_ BK415.out) hb); have n1_ := Aside0.mk (below_step (bl1_ HB.out GE415.out) hb); clear BK415; clear HB; have BK415 := n0_; have HB := n1_; clear n0_ n1_; (try clear hb); (try clear hb2); (try clear hk); (try clear hi)) | ((with_reducible refine gate_dst (N := 4) rfl ?_); (try (refine gate_guard (by rfl) ?_; dsimp only)); refine box_event ?hg (N := 4) ?hd (cs := #[.int .i64 0, .string (⟨#[]⟩ : ByteArray), .int .i64 0, .int .i64 0]) (t := 46) ?hr ?_; (case hd => rfl); (case hg => rfl); (case hr => first | (go_simp; done) | (go_simp; rfl)); intro gb423 hg w36 hbox hb; have n0_ := Aside0.mk (blk_below (g := gb415) (o := .cells #[.int .i64 a0_0, .string a0_1, .int .i64 a0_2, .int .i64 0] 46 (0, 0)) (bk_ BK415.out) hb); have n1_ := Aside0.mk (below_step (bl1_ HB.out GE415.out) hb); have n2_ := Aside0.mk (hbox); have n3_ := Aside0.mk ((by rw [hg]; exact (below_size (bl1_ HB.out GE415.out)) : w.heap.size ≤ gb423)); have n4_ := Aside0.mk ((by rw [hg]; exact (below_size (bl1_ HB.out GE415.out)) : w.heap.size ≤ gb423)); have n5_ := Aside0.mk ((by rw [hg]; exact Nat.ne_of_lt (blk_lt (g := gb415) (o := .cells #[.int .i64 a0_0, .string a0_1, .int .i64 a0_2, .int .i64 0] 46 (0, 0)) (bk_ BK415.out)) : gb415 ≠ gb423)); have n6_ := Aside0.mk ((by rw [hg]; exact Nat.ne_of_gt (blk_lt (g := gb415) (o := .cells #[.int .i64 a0_0, .string a0_1, .int .i64 a0_2, .int .i64 0] 46 (0, 0)) (bk_ BK415.out)) : gb423 ≠ gb415)); clear BK415; clear HB; have BK415 := n0_; have HB := n1_; have BK423 := n2_; have GW423 := n3_; have GE423 := n4_; have NB415_423 := n5_; have NB423_415 := n6_; clear n0_ n1_ n2_ n3_ n4_ n5_ n6_; clear hb hbox hg; have hnb37 := NB423_415.out; have hnc37 := NB415_423.out; have hcz38_0 : w36.cell? ⟨gb423, 0, none⟩ = some (.int .i64 0) := (blk_cell BK423.out 0).trans rfl; have hcz38_1 : w36.cell? ⟨gb423, 1, none⟩ = some (.string (⟨#[]⟩ : ByteArray)) := (blk_cell BK423.out 1).trans rfl; have hcz38_2 : w36.cell? ⟨gb423, 2, none⟩ = some (.int .i64 0) := (blk_cell BK423.out 2).trans rfl; have hcz38_3 : w36.cell? ⟨gb423, 3, none⟩ = some (.int .i64 0) := (blk_cell BK423.out 3).trans rfl; have hfz38_0 := blk_frozen BK423.out 0; have hfz38_1 := blk_frozen BK423.out 1; have hfz38_2 := blk_frozen BK423.out 2; have hfz38_3 := blk_frozen BK423.out 3))
          go_ret
          exact ⟨er_, bl2_ HB.out GE415.out GE423.out⟩
end Go.Proofs.YtkifdadhojbohaaDoor.Pr
namespace Go.Proofs.YtkifdadhojbohaaDoor.Pu
open Go.RowKit Go.Proofs.YtkifdadhojbohaaDoor Go.Proofs.YtkifdadhojbohaaDoor.Pr Go.Proofs.YtkifdadhojbohaaDoorW.PrintWords Go.Proofs.YtkifdadhojbohaaDoorW.PrintLast
theorem rspell_loop (w : List UInt8) (hw : w.length ≤ 100) : ∀ (m : Nat) (p : List UInt8), p.length = m → m ≤ 100 → Ev (fun k => salchowref09_spell.l0 k (str w) (str p)) (str (w ++ (if cutZ p = [] then [] else 46 :: cutZ p))) := by
  intro m
  induction m with
  | zero =>
    intro p hp _
    obtain rfl : p = [] := List.length_eq_zero_iff.1 hp
    refine Ev.succ ?_
    simp only [salchowref09_spell.l0]
    refine Ev.ifn (by rw [size_str]; simp) (Ev.ifp (by rw [toList_lst]; rfl) (Ev.ret ?_))
    simp [cutZ]
  | succ m ih =>
    intro p hp hm
    obtain ⟨q, c, rfl⟩ : ∃ q c, p = q ++ [c] := ⟨p.dropLast, p.getLast (by intro h; rw [h] at hp; simp at hp), (List.dropLast_concat_getLast _).symm⟩
    have hq : q.length = m := by simpa using hp
    have hb : bt (str (q ++ [c])) ((m : Nat) : Int) = (c.toNat : Int) := by
      obtain ⟨x, hx, hb⟩ := bt_get (s := str (q ++ [c])) (i := m) (by rw [size_str]; omega)
      rw [lst_str, List.getElem?_append_right (by omega)] at hx
      simp [hq] at hx
      rw [hb, hx]
    have hsz : (str (q ++ [c])).size = m + 1 := by rw [size_str]; simpa using hp
    refine Ev.succ ?_
    simp only [salchowref09_spell.l0]
    rw [hsz, wrap64_of (by omega) (by omega), show (((m + 1 : Nat) : Int) - 1) = ((m : Nat) : Int) by omega, hb]
    refine Ev.ifp (by omega) (Ev.ifp (by omega) (Ev.ifp (by omega) ?_))
    rw [cutZ_snoc]
    by_cases h48 : c.toNat = 48
    · rw [if_pos h48]
      refine Ev.ifp (by omega) (Ev.ifp (by omega) ?_)
      have : (str (q ++ [c])).extract 0 ((m : Nat) : Int).toNat = str q := by
        apply lst_inj
        rw [lst_extract, lst_str, lst_str, Int.toNat_natCast, List.drop_zero, List.take_left' hq]
      rw [this]
      exact ih q hq (by omega)
    · rw [if_neg h48]
      refine Ev.ifn (by omega) (Ev.ifn (by rw [toList_lst, lst_str]; simp) (Ev.ifp (by omega) (Ev.ifp ?_ (Ev.ret ?_))))
      · rw [show (⟨#[46]⟩ : ByteArray) = str [46] from rfl, str_append, size_str, size_str]
        simp only [List.length_append, List.length_cons, List.length_nil]
        omega
      · rw [if_neg (by simp), show (⟨#[46]⟩ : ByteArray) = str [46] from rfl, str_append, str_append]
        rfl
theorem rspell_f (n : Nat) (hn : n ≤ 1000000000) : Ev (fun k => salchowref09_spell.f k (n : Int)) (str (numS n)) := by
  unfold salchowref09_spell.f
  have e1 : wrap64 (Int.tdiv (n : Int) 1000) = ((n / 1000 : Nat) : Int) := by
    rw [show Int.tdiv (n : Int) 1000 = ((n / 1000 : Nat) : Int) from rfl, wrap64_of (by omega) (by omega)]
  have e2 : wrap64 (1000 + (Int.tmod (n : Int) 1000)) = ((1 * 1000 + n % 1000 : Nat) : Int) := by
    rw [show Int.tmod (n : Int) 1000 = ((n % 1000 : Nat) : Int) from rfl, wrap64_of (by omega) (by omega)]; omega
  rw [e1, e2, fmt_f _ (by omega), fmt_f _ (by omega), dec_thousand _ (by omega) 1 (by omega), show Lib.decDigits 1 = [UInt8.ofNat (48 + 1)] from Lib.decDigits_one (by decide)]
  simp only [Option.bind_some]
  have hx : (str ([UInt8.ofNat (48 + 1)] ++ three (n % 1000))).extract 1 (str ([UInt8.ofNat (48 + 1)] ++ three (n % 1000))).size = str (three (n % 1000)) := by
    apply lst_inj
    rw [lst_extract, lst_str, lst_str, size_str, List.take_length]; rfl
  rw [hx]
  refine Ev.ifp (by rw [size_str]; simp [three]) ?_
  exact rspell_loop _ (by have := dec_len (n / 1000) (by omega); omega) 3 _ rfl (by omega)
theorem rSpell_f (k0 : Int) (s : ByteArray) (hs : s.size ≤ 1000000) (n a : Int) : Ev (fun k => salchowref09_Spell.f k k0 s n a) (str (spellS k0 (lst s) n)) := by
  unfold salchowref09_Spell.f spellS
  by_cases h2 : k0 = 2
  · subst h2
    refine Ev.ifp rfl ?_
    by_cases h : n ≥ 0
    · refine Ev.ifp h ?_
      by_cases h3 : n ≤ 1000000000
      · obtain ⟨m, rfl⟩ : ∃ m : Nat, n = (m : Int) := ⟨n.toNat, by omega⟩
        refine Ev.ifp h3 (Ev.bind (rspell_f m (by omega)) (Ev.ret ?_))
        simp [h3]
      · exact Ev.ifn h3 (Ev.ret (by simp [h3]; rfl))
    · exact Ev.ifn h (Ev.ret (by simp [show ¬ 0 ≤ n from h]; rfl))
  · refine Ev.ifn h2 ?_
    by_cases h3 : k0 = 3
    · subst h3
      refine Ev.ifp rfl (Ev.ifp (by omega) (Ev.ifp ?_ (Ev.ret ?_)))
      · rw [ByteArray.size_append]; show 1 + s.size + 1 ≤ _; omega
      · apply lst_inj
        rw [lst_append, lst_append, lst_str]; rfl
    · refine Ev.ifn h3 ?_
      by_cases h1 : k0 = 1
      · exact Ev.ifp h1 (Ev.ret (by simp [h1]))
      · refine Ev.ifn h1 ?_
        by_cases h4 : k0 = 4
        · exact Ev.ifp h4 (Ev.ret (by simp [h4]))
        · exact Ev.ifn h4 (Ev.ret (by simp [h1, h2, h3, h4]; rfl))
theorem rvalid_f (k0 : Int) (s : ByteArray) (hs : s.size ≤ 100000) (n a : Int) : Ev (fun k => salchowref09_Valid.f k k0 s n a) (validB k0 (lst s) n) := by
  unfold salchowref09_Valid.f
  by_cases h5 : k0 = 5
  · subst h5
    refine Ev.ifp rfl (Ev.ret ?_)
    rw [toList_lst]
    unfold validB
    by_cases hn : n = 0
    · subst hn; simp
    · rw [if_pos ⟨by decide, hn⟩]; simp [hn]
  · refine Ev.ifn h5 (Ev.bind (rSpell_f k0 s (by omega) n 0) ?_)
    have hlen : (spellS k0 (lst s) n).length ≤ 200000 := by
      unfold spellS
      (repeat' split)
      · simp [lst_length]; omega
      · rename_i h
        have := numS_len n.toNat (by omega)
        omega
      · simp
      · rw [lst_length]; omega
      · simp
    rw [size_str]
    by_cases h0 : ((spellS k0 (lst s) n).length : Int) = 0
    · refine Ev.ifp h0 (Ev.ret ?_)
      cases hv : validB k0 (lst s) n with
      | false => rfl
      | true =>
        have := (reads_of_valid hv h5).2.1
        exact absurd (List.length_eq_zero_iff.1 (by omega)) this
    · refine Ev.ifn h0 ?_
      by_cases h60 : ((spellS k0 (lst s) n).length : Int) > 60
      · refine Ev.ifp h60 (Ev.ret ?_)
        cases hv : validB k0 (lst s) n with
        | false => rfl
        | true =>
          have := (reads_of_valid hv h5).2.2
          omega
      · refine Ev.ifn h60 ?_
        have ht := rtoken_f (str (spellS k0 (lst s) n)) (by rw [size_str]; omega) 0 (spellS k0 (lst s) n) (by omega) rfl
        refine Ev.bind ht ?_
        rw [size_str]
        have hne : spellS k0 (lst s) n ≠ [] := by intro e; rw [e] at h0; simp at h0
        unfold tokT
        by_cases hc : (tokL (spellS k0 (lst s) n)).code = 0
        · rw [if_pos hc]
          refine Ev.ifp rfl ?_
          by_cases hr : (tokL (spellS k0 (lst s) n)).rest = []
          · rw [hr]
            refine Ev.ifp (by simp) (Ev.ret ?_)
            cases hv : validB k0 (lst s) n with
            | true =>
              obtain ⟨⟨_, _, g1, g2, g3⟩, _⟩ := reads_of_valid hv h5
              rw [g1, g2, g3]
              simp [toList_lst]
            | false =>
              rw [Bool.eq_false_iff]
              intro hx
              simp only [Bool.and_eq_true, beq_iff_eq, toList_lst, lst_str] at hx
              have := valid_of_reads hne ⟨hc, hr, hx.1, hx.2.1, hx.2.2.1⟩ h5
              rw [hv] at this; cases this
          · refine Ev.ifn ?_ (Ev.ret ?_)
            · have := List.length_pos_iff.2 hr
              dsimp only
              omega
            · cases hv : validB k0 (lst s) n with
              | false => rfl
              | true => exact absurd (reads_of_valid hv h5).1.2.1 hr
        · rw [if_neg hc]
          refine Ev.ifn hc (Ev.ret ?_)
          cases hv : validB k0 (lst s) n with
          | false => rfl
          | true => exact absurd (reads_of_valid hv h5).1.1 hc
end Go.Proofs.YtkifdadhojbohaaDoor.Pu
