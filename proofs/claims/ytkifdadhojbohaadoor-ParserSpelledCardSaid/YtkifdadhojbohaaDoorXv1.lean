/- Joined out of the texts of this proof that bear the names PrF35 PvB PrF27 PwEc: what each shows stands over it there. -/
import Derived.Test.YtkifdadhojbohaaDoorXk1
import Derived.Test.YtkifdadhojbohaaDoorXa1
import Derived.Test.YtkifdadhojbohaaDoorXp1
set_option linter.unusedVariables false
set_option linter.unusedSimpArgs false
namespace Go.Proofs.YtkifdadhojbohaaDoor.Pr
open Go.Proofs.YtkifdadhojbohaaDoor
open Go.RowKit Go.Proofs.YtkifdadhojbohaaDoorW.PrintWords Go.Proofs.YtkifdadhojbohaaDoorW.PrintLast Go.Proofs.YtkifdadhojbohaaDoorW.PrintMore
attribute [local go_sem] max2_int min2_int max_two min_two max_three min_three max_four min_four   -- for this text's walks alone
set_option linter.unusedVariables false
set_option linter.unusedSimpArgs false
/-! ### lexer_Spell: function 35 -/
def lexer_Spell.f (k : Nat) (a0_0 : Int) (a0_1 : ByteArray) (a0_2 : Int) (a0_3 : Int) : Option (ByteArray × Int) := (lexer_Valid.f k a0_0 a0_1 a0_2 a0_3).bind fun t359 => (if t359 = true then (if a0_0 = 3 then (if 1 + a0_1.size ≤ 9223372036854775807 then (if ((⟨#[34]⟩ : ByteArray) ++ a0_1).size + 1 ≤ 9223372036854775807 then (some (((⟨#[34]⟩ : ByteArray) ++ a0_1) ++ (⟨#[34]⟩ : ByteArray), 0)) else (none)) else (none)) else (if a0_0 = 2 then ((strconv_FormatInt.f (wrap64 (a0_2 + 1000)) 10).bind fun t360 => ((strconv_FormatInt.f (wrap64 (Int.tdiv a0_2 1000)) 10).bind fun t361 => (if 0 ≤ (wrap64 ((t360.size : Int) - 3)) then (if (wrap64 ((t360.size : Int) - 3)) ≤ (t360.size : Int) then ((strings_TrimRight.f (t360.extract ((wrap64 ((t360.size : Int) - 3)) : Int).toNat t360.size) (⟨#[48]⟩ : ByteArray)).bind fun t362 => (if t362.toList = ([] : List UInt8) then (some (t361, 0)) else (if t361.size + 1 ≤ 9223372036854775807 then (if (t361 ++ (⟨#[46]⟩ : ByteArray)).size + t362.size ≤ 9223372036854775807 then (some ((t361 ++ (⟨#[46]⟩ : ByteArray)) ++ t362, 0)) else (none)) else (none)))) else (none)) else (none)))) else (some (a0_1, 0)))) else (some ((⟨#[]⟩ : ByteArray), 1)))
theorem lexer_Spell.mono : ∀ a0 a1 a2 a3 k, LeO (lexer_Spell.f k a0 a1 a2 a3) (lexer_Spell.f (k + 1) a0 a1 a2 a3) := by
 intro a0 a1 a2 a3 k
 unfold lexer_Spell.f
 repeat' first
   | (with_reducible exact LeO.refl _)
   | exact lexer_Valid.mono _ _ _ _ _
   | exact LeO.none _
   | refine LeO.ite ?_ ?_
   | refine LeO.bind ?_ (fun _ => ?_)
set_option maxHeartbeats 8000000 in
set_option maxRecDepth 100000 in
theorem lexer_Spell.calls (k : Nat) (a0_0 : Int) (a0_1 : ByteArray) (a0_2 : Int) (a0_3 : Int) (r1 : ByteArray) (r2 : Int) (w : World) (hG : Gl w) (h : lexer_Spell.f k a0_0 a0_1 a0_2 a0_3 = some (r1, r2)) :
  Calls Tryd.prog 35 #[.agg #[.int .i64 a0_0, .string a0_1, .int .i64 a0_2, .int .i64 a0_3]] w fun e w' => e = .returned (.tuple #[.string r1, .int .i64 r2]) ∧ Below w.heap.size w w' := by
 have hu46 := Tryd.underlying46
 have HB := Aside0.mk (Below.refl w.heap.size w)
 have H : ((lexer_Valid.f k a0_0 a0_1 a0_2 a0_3).bind fun t359 => (if t359 = true then (if a0_0 = 3 then (if 1 + a0_1.size ≤ 9223372036854775807 then (if ((⟨#[34]⟩ : ByteArray) ++ a0_1).size + 1 ≤ 9223372036854775807 then (some (((⟨#[34]⟩ : ByteArray) ++ a0_1) ++ (⟨#[34]⟩ : ByteArray), 0)) else (none)) else (none)) else (if a0_0 = 2 then ((strconv_FormatInt.f (wrap64 (a0_2 + 1000)) 10).bind fun t360 => ((strconv_FormatInt.f (wrap64 (Int.tdiv a0_2 1000)) 10).bind fun t361 => (if 0 ≤ (wrap64 ((t360.size : Int) - 3)) then (if (wrap64 ((t360.size : Int) - 3)) ≤ (t360.size : Int) then ((strings_TrimRight.f (t360.extract ((wrap64 ((t360.size : Int) - 3)) : Int).toNat t360.size) (⟨#[48]⟩ : ByteArray)).bind fun t362 => (if t362.toList = ([] : List UInt8) then (some (t361, 0)) else (if t361.size + 1 ≤ 9223372036854775807 then (if (t361 ++ (⟨#[46]⟩ : ByteArray)).size + t362.size ≤ 9223372036854775807 then (some ((t361 ++ (⟨#[46]⟩ : ByteArray)) ++ t362, 0)) else (none)) else (none)))) else (none)) else (none)))) else (some (a0_1, 0)))) else (some ((⟨#[]⟩ : ByteArray), 1)))) = some (r1, r2) := h
 clear h
 replace H := Option.bind_eq_some_iff.mp H
 obtain ⟨t359, A20, H⟩ := H
 (try dsimp only at H)
 have A2 := Aside0.mk A20
 clear A20
 by_cases c3 : t359 = true
 ·
  subst c3
  have H1 : (if a0_0 = 3 then (if 1 + a0_1.size ≤ 9223372036854775807 then (if ((⟨#[34]⟩ : ByteArray) ++ a0_1).size + 1 ≤ 9223372036854775807 then (some (((⟨#[34]⟩ : ByteArray) ++ a0_1) ++ (⟨#[34]⟩ : ByteArray), 0)) else (none)) else (none)) else (if a0_0 = 2 then ((strconv_FormatInt.f (wrap64 (a0_2 + 1000)) 10).bind fun t360 => ((strconv_FormatInt.f (wrap64 (Int.tdiv a0_2 1000)) 10).bind fun t361 => (if 0 ≤ (wrap64 ((t360.size : Int) - 3)) then (if (wrap64 ((t360.size : Int) - 3)) ≤ (t360.size : Int) then ((strings_TrimRight.f (t360.extract ((wrap64 ((t360.size : Int) - 3)) : Int).toNat t360.size) (⟨#[48]⟩ : ByteArray)).bind fun t362 => (if t362.toList = ([] : List UInt8) then (some (t361, 0)) else (if t361.size + 1 ≤ 9223372036854775807 then (if (t361 ++ (⟨#[46]⟩ : ByteArray)).size + t362.size ≤ 9223372036854775807 then (some ((t361 ++ (⟨#[46]⟩ : ByteArray)) ++ t362, 0)) else (none)) else (none)))) else (none)) else (none)))) else (some (a0_1, 0)))) = some (r1, r2) := by rw [if_pos rfl] at H; exact H
  clear H
  have H := H1
  clear H1
  by_cases c4 : a0_0 = 3
  ·
   rw [if_pos c4] at H
   have c4b0 := beq_iff_eq.mpr c4
   have c4b1 := bne_eq_false_iff_eq.mpr c4
   clear c4
   by_cases c5 : 1 + a0_1.size ≤ 9223372036854775807
   ·
    rw [if_pos c5] at H
    have c5b0 := eq_true c5
    have c5b1 := decide_eq_true c5
    try have c5b2 : (9223372036854775807 < 1 + a0_1.size) = False := eq_false (Nat.not_lt.2 c5)
    by_cases c6 : ((⟨#[34]⟩ : ByteArray) ++ a0_1).size + 1 ≤ 9223372036854775807
    ·
     rw [if_pos c6] at H
     have c6b0 := eq_true c6
     have c6b1 := decide_eq_true c6
     (try (have c6b3 : (9223372036854775807 < 1 + a0_1.size + 1) = False := eq_false (Nat.not_lt.2 (by have h_ := c6; simp only [ByteArray.size_append] at h_; exact h_))))
     (try (have c6b4 : (1 + a0_1.size + 1 ≤ 9223372036854775807) = True := eq_true (by have h_ := c6; simp only [ByteArray.size_append] at h_; exact h_)))
     try have c6b2 : (9223372036854775807 < ((⟨#[34]⟩ : ByteArray) ++ a0_1).size + 1) = False := eq_false (Nat.not_lt.2 c6)
     simp only [Option.some.injEq, Prod.mk.injEq] at H
     obtain ⟨rfl, rfl⟩ := H
     go_enter Tryd.func35, Tryd.ntmps35
     go_wp2_with (first | ((with_reducible refine gate_dst (N := 1) rfl ?_); refine bx_ (N := 1) (cs := #[.int .i64 a0_0, .string a0_1, .int .i64 a0_2, .int .i64 a0_3]) (t := 46) ?_; intro gb358 hg w7 hbox hb; refine cut4_ (below_step (bl_ HB.out) hb) (hbox) (bz_ (w := w) hg (bl_ HB.out)) (bz_ (w := w) hg (bl_ HB.out)) ?_; clear HB; intro HB BK358 GW358 GE358; clear hb hbox hg; obtain ⟨hcz8_0, hcz8_1, hcz8_2, hcz8_3, hfz8_0, hfz8_1, hfz8_2, hfz8_3⟩ := cq4_ BK358.out) | ((with_reducible refine gate_callee (f := 36) rfl ?_); refine goesL_ (some 8) rfl rfl Tryd.func36 (by kernel_rfl) rfl #[.agg #[.int .i64 a0_0, .string a0_1, .int .i64 a0_2, .int .i64 a0_3]] rfl ga_ ?_; (with_reducible refine (lexer_Valid.calls k a0_0 a0_1 a0_2 a0_3 true _ A2.out).mono ?_); rintro e w9 ⟨rfl, hb⟩; refine ⟨_, rfl, ?_⟩; refine cut2_ (bb_ BK358.out hb) (below_step (bl1_ HB.out GE358.out) hb) ?_; clear BK358 HB; intro BK358 HB; (try clear hb); (try clear hb2); (try clear hk); (try clear hi); obtain ⟨hcz10_0, hcz10_1, hcz10_2, hcz10_3, hfz10_0, hfz10_1, hfz10_2, hfz10_3⟩ := cq4_ BK358.out))
     go_ret2
     exact ⟨er_, bl1_ HB.out GE358.out⟩
    ·
     rw [if_neg c6] at H
     exact absurd H (by simp)
   ·
    rw [if_neg c5] at H
    exact absurd H (by simp)
  ·
   rw [if_neg c4] at H
   have c4b0 := beq_eq_false_iff_ne.mpr c4
   have c4b1 := bne_iff_ne.mpr c4
   by_cases c11 : a0_0 = 2
   ·
    rw [if_pos c11] at H
    have c11b0 := beq_iff_eq.mpr c11
    have c11b1 := bne_eq_false_iff_eq.mpr c11
    clear c11
    replace H := Option.bind_eq_some_iff.mp H
    obtain ⟨t360, A120, H⟩ := H
    (try dsimp only at H)
    have A12 := Aside0.mk A120
    clear A120
    replace H := Option.bind_eq_some_iff.mp H
    obtain ⟨t361, A130, H⟩ := H
    (try dsimp only at H)
    have A13 := Aside0.mk A130
    clear A130
    obtain ⟨ji14, hji14⟩ : ∃ j_ : Int, (wrap64 ((t360.size : Int) - 3)) = j_ := ⟨_, rfl⟩
    replace H : (if 0 ≤ (ji14) then (if (ji14) ≤ (t360.size : Int) then ((strings_TrimRight.f (t360.extract ((ji14) : Int).toNat t360.size) (⟨#[48]⟩ : ByteArray)).bind fun t362 => (if t362.toList = ([] : List UInt8) then (some (t361, 0)) else (if t361.size + 1 ≤ 9223372036854775807 then (if (t361 ++ (⟨#[46]⟩ : ByteArray)).size + t362.size ≤ 9223372036854775807 then (some ((t361 ++ (⟨#[46]⟩ : ByteArray)) ++ t362, 0)) else (none)) else (none)))) else (none)) else (none)) = some (r1, r2) := by first | (rw [hji14] at H; exact H) | (simp only [hji14] at H ⊢; exact H)
    (try rw [hji14] at A2)
    (try rw [hji14] at A12)
    (try rw [hji14] at A13)
    have hji14w : (IntKind.i64.wrap ((t360.size : Int) - 3)) = ji14 := (i64_w _).trans hji14
    by_cases c15 : 0 ≤ (ji14)
    ·
     rw [if_pos c15] at H
     have c15b0 := eq_true c15
     have c15b1 := decide_eq_true c15
     clear c15
     by_cases c16 : (ji14) ≤ (t360.size : Int)
     ·
      rw [if_pos c16] at H
      have c16b0 := eq_true c16
      have c16b1 := decide_eq_true c16
      clear c16
      replace H := Option.bind_eq_some_iff.mp H
      obtain ⟨t362, A170, H⟩ := H
      (try dsimp only at H)
      have A17 := Aside0.mk A170
      clear A170
      by_cases c18 : t362.toList = ([] : List UInt8)
      ·
       rw [if_pos c18] at H
       have c18b0 := beq_iff_eq.mpr c18
       have c18b1 := bne_eq_false_iff_eq.mpr c18
       clear c18
       simp only [Option.some.injEq, Prod.mk.injEq] at H
       obtain ⟨rfl, rfl⟩ := H
       go_enter Tryd.func35, Tryd.ntmps35
       go_wp2_with (first | ((with_reducible refine gate_dst (N := 1) rfl ?_); refine bx_ (N := 1) (cs := #[.int .i64 a0_0, .string a0_1, .int .i64 a0_2, .int .i64 a0_3]) (t := 46) ?_; intro gb358 hg w19 hbox hb; refine cut4_ (below_step (bl_ HB.out) hb) (hbox) (bz_ (w := w) hg (bl_ HB.out)) (bz_ (w := w) hg (bl_ HB.out)) ?_; clear HB; intro HB BK358 GW358 GE358; clear hb hbox hg; obtain ⟨hcz20_0, hcz20_1, hcz20_2, hcz20_3, hfz20_0, hfz20_1, hfz20_2, hfz20_3⟩ := cq4_ BK358.out) | ((with_reducible refine gate_callee (f := 36) rfl ?_); refine goesL_ (some 8) rfl rfl Tryd.func36 (by kernel_rfl) rfl #[.agg #[.int .i64 a0_0, .string a0_1, .int .i64 a0_2, .int .i64 a0_3]] rfl ga_ ?_; (with_reducible refine (lexer_Valid.calls k a0_0 a0_1 a0_2 a0_3 true _ A2.out).mono ?_); rintro e w21 ⟨rfl, hb⟩; refine ⟨_, rfl, ?_⟩; refine cut2_ (bb_ BK358.out hb) (below_step (bl1_ HB.out GE358.out) hb) ?_; clear BK358 HB; intro BK358 HB; (try clear hb); (try clear hb2); (try clear hk); (try clear hi); obtain ⟨hcz22_0, hcz22_1, hcz22_2, hcz22_3, hfz22_0, hfz22_1, hfz22_2, hfz22_3⟩ := cq4_ BK358.out) | ((with_reducible refine gate_callee (f := 61) rfl ?_); refine goesL_ (some 23) rfl rfl Tryd.func61 (by kernel_rfl) rfl #[.int .i64 (wrap64 (a0_2 + 1000)), .int .i64 10] rfl ga_ ?_; (with_reducible refine (strconv_FormatInt.calls (wrap64 (a0_2 + 1000)) 10 t360 _ ?side1 A12.out).mono ?_); (case side1 => exact Gl.below hG (bl1_ HB.out GE358.out)); rintro e w23 ⟨rfl, hb⟩; refine ⟨_, rfl, ?_⟩; refine cut2_ (bb_ BK358.out hb) (below_step (bl1_ HB.out GE358.out) hb) ?_; clear BK358 HB; intro BK358 HB; (try clear hb); (try clear hb2); (try clear hk); (try clear hi); obtain ⟨hcz24_0, hcz24_1, hcz24_2, hcz24_3, hfz24_0, hfz24_1, hfz24_2, hfz24_3⟩ := cq4_ BK358.out) | ((with_reducible refine gate_callee (f := 61) rfl ?_); refine goesL_ (some 27) rfl rfl Tryd.func61 (by kernel_rfl) rfl #[.int .i64 (wrap64 (Int.tdiv a0_2 1000)), .int .i64 10] rfl ga_ ?_; (with_reducible refine (strconv_FormatInt.calls (wrap64 (Int.tdiv a0_2 1000)) 10 t361 _ ?side1 A13.out).mono ?_); (case side1 => exact Gl.below hG (bl1_ HB.out GE358.out)); rintro e w25 ⟨rfl, hb⟩; refine ⟨_, rfl, ?_⟩; refine cut2_ (bb_ BK358.out hb) (below_step (bl1_ HB.out GE358.out) hb) ?_; clear BK358 HB; intro BK358 HB; (try clear hb); (try clear hb2); (try clear hk); (try clear hi)) | ((with_reducible refine gate_callee (f := 62) rfl ?_); refine goesL_ (some 33) rfl rfl Tryd.func62 (by kernel_rfl) rfl #[.string (t360.extract ((ji14) : Int).toNat t360.size), .string (⟨#[48]⟩ : ByteArray)] rfl (by (try simp only [List.map_toArray, List.map_cons, List.map_nil]); first | done | (simp only [hji14]; rfl) | rfl | (simp only [List.length_drop, List.length_take]; rfl)) ?_; (with_reducible refine (strings_TrimRight.calls (t360.extract ((ji14) : Int).toNat t360.size) (⟨#[48]⟩ : ByteArray) t362 _ A17.out).mono ?_); rintro e w26 ⟨rfl, hb⟩; refine ⟨_, rfl, ?_⟩; refine cut2_ (bb_ BK358.out hb) (below_step (bl1_ HB.out GE358.out) hb) ?_; clear BK358 HB; intro BK358 HB; (try clear hb); (try clear hb2); (try clear hk); (try clear hi)))
       go_ret2
       exact ⟨by first | rfl | (simp [errW_none, errW_some] <;> rfl) | (simp only [← hji14]; first | rfl | (simp [errW_none, errW_some] <;> rfl)) | (simp [*, errW_none, errW_some] <;> rfl), bl1_ HB.out GE358.out⟩
      ·
       rw [if_neg c18] at H
       have c18b0 := beq_eq_false_iff_ne.mpr c18
       have c18b1 := bne_iff_ne.mpr c18
       by_cases c27 : t361.size + 1 ≤ 9223372036854775807
       ·
        rw [if_pos c27] at H
        have c27b0 := eq_true c27
        have c27b1 := decide_eq_true c27
        try have c27b2 : (9223372036854775807 < t361.size + 1) = False := eq_false (Nat.not_lt.2 c27)
        by_cases c28 : (t361 ++ (⟨#[46]⟩ : ByteArray)).size + t362.size ≤ 9223372036854775807
        ·
         rw [if_pos c28] at H
         have c28b0 := eq_true c28
         have c28b1 := decide_eq_true c28
         (try (have c28b3 : (9223372036854775807 < t361.size + 1 + t362.size) = False := eq_false (Nat.not_lt.2 (by have h_ := c28; simp only [ByteArray.size_append] at h_; exact h_))))
         (try (have c28b4 : (t361.size + 1 + t362.size ≤ 9223372036854775807) = True := eq_true (by have h_ := c28; simp only [ByteArray.size_append] at h_; exact h_)))
         try have c28b2 : (9223372036854775807 < (t361 ++ (⟨#[46]⟩ : ByteArray)).size + t362.size) = False := eq_false (Nat.not_lt.2 c28)
         simp only [Option.some.injEq, Prod.mk.injEq] at H
         obtain ⟨rfl, rfl⟩ := H
         go_enter Tryd.func35, Tryd.ntmps35
         go_wp2_with (first | ((with_reducible refine gate_dst (N := 1) rfl ?_); refine bx_ (N := 1) (cs := #[.int .i64 a0_0, .string a0_1, .int .i64 a0_2, .int .i64 a0_3]) (t := 46) ?_; intro gb358 hg w29 hbox hb; refine cut4_ (below_step (bl_ HB.out) hb) (hbox) (bz_ (w := w) hg (bl_ HB.out)) (bz_ (w := w) hg (bl_ HB.out)) ?_; clear HB; intro HB BK358 GW358 GE358; clear hb hbox hg; obtain ⟨hcz30_0, hcz30_1, hcz30_2, hcz30_3, hfz30_0, hfz30_1, hfz30_2, hfz30_3⟩ := cq4_ BK358.out) | ((with_reducible refine gate_callee (f := 36) rfl ?_); refine goesL_ (some 8) rfl rfl Tryd.func36 (by kernel_rfl) rfl #[.agg #[.int .i64 a0_0, .string a0_1, .int .i64 a0_2, .int .i64 a0_3]] rfl ga_ ?_; (with_reducible refine (lexer_Valid.calls k a0_0 a0_1 a0_2 a0_3 true _ A2.out).mono ?_); rintro e w31 ⟨rfl, hb⟩; refine ⟨_, rfl, ?_⟩; refine cut2_ (bb_ BK358.out hb) (below_step (bl1_ HB.out GE358.out) hb) ?_; clear BK358 HB; intro BK358 HB; (try clear hb); (try clear hb2); (try clear hk); (try clear hi); obtain ⟨hcz32_0, hcz32_1, hcz32_2, hcz32_3, hfz32_0, hfz32_1, hfz32_2, hfz32_3⟩ := cq4_ BK358.out) | ((with_reducible refine gate_callee (f := 61) rfl ?_); refine goesL_ (some 23) rfl rfl Tryd.func61 (by kernel_rfl) rfl #[.int .i64 (wrap64 (a0_2 + 1000)), .int .i64 10] rfl ga_ ?_; (with_reducible refine (strconv_FormatInt.calls (wrap64 (a0_2 + 1000)) 10 t360 _ ?side1 A12.out).mono ?_); (case side1 => exact Gl.below hG (bl1_ HB.out GE358.out)); rintro e w33 ⟨rfl, hb⟩; refine ⟨_, rfl, ?_⟩; refine cut2_ (bb_ BK358.out hb) (below_step (bl1_ HB.out GE358.out) hb) ?_; clear BK358 HB; intro BK358 HB; (try clear hb); (try clear hb2); (try clear hk); (try clear hi); obtain ⟨hcz34_0, hcz34_1, hcz34_2, hcz34_3, hfz34_0, hfz34_1, hfz34_2, hfz34_3⟩ := cq4_ BK358.out) | ((with_reducible refine gate_callee (f := 61) rfl ?_); refine goesL_ (some 27) rfl rfl Tryd.func61 (by kernel_rfl) rfl #[.int .i64 (wrap64 (Int.tdiv a0_2 1000)), .int .i64 10] rfl ga_ ?_; (with_reducible refine (strconv_FormatInt.calls (wrap64 (Int.tdiv a0_2 1000)) 10 t361 _ ?side1 A13.out).mono ?_); (case side1 => exact Gl.below hG (bl1_ HB.out GE358.out)); rintro e w35 ⟨rfl, hb⟩; refine ⟨_, rfl, ?_⟩; refine cut2_ (bb_ BK358.out hb) (below_step (bl1_ HB.out GE358.out) hb) ?_; clear BK358 HB; intro BK358 HB; (try clear hb); (try clear hb2); (try clear hk); (try clear hi)) | ((with_reducible refine gate_callee (f := 62) rfl ?_); refine goesL_ (some 33) rfl rfl Tryd.func62 (by kernel_rfl) rfl #[.string (t360.extract ((ji14) : Int).toNat t360.size), .string (⟨#[48]⟩ : ByteArray)] rfl (by (try simp only [List.map_toArray, List.map_cons, List.map_nil]); first | done | (simp only [hji14]; rfl) | rfl | (simp only [List.length_drop, List.length_take]; rfl)) ?_; (with_reducible refine (strings_TrimRight.calls (t360.extract ((ji14) : Int).toNat t360.size) (⟨#[48]⟩ : ByteArray) t362 _ A17.out).mono ?_); rintro e w36 ⟨rfl, hb⟩; refine ⟨_, rfl, ?_⟩; refine cut2_ (bb_ BK358.out hb) (below_step (bl1_ HB.out GE358.out) hb) ?_; clear BK358 HB; intro BK358 HB; (try clear hb); (try clear hb2); (try clear hk); (try clear hi)))
         go_ret2
         exact ⟨by first | rfl | (simp [errW_none, errW_some] <;> rfl) | (simp only [← hji14]; first | rfl | (simp [errW_none, errW_some] <;> rfl)) | (simp [*, errW_none, errW_some] <;> rfl), bl1_ HB.out GE358.out⟩
        ·
         rw [if_neg c28] at H
         exact absurd H (by simp)
       ·
        rw [if_neg c27] at H
        exact absurd H (by simp)
     ·
      rw [if_neg c16] at H
      exact absurd H (by simp)
    ·
     rw [if_neg c15] at H
     exact absurd H (by simp)
   ·
    rw [if_neg c11] at H
    have c11b0 := beq_eq_false_iff_ne.mpr c11
    have c11b1 := bne_iff_ne.mpr c11
    simp only [Option.some.injEq, Prod.mk.injEq] at H
    obtain ⟨rfl, rfl⟩ := H
    go_enter Tryd.func35, Tryd.ntmps35
    go_wp2_with (first | ((with_reducible refine gate_dst (N := 1) rfl ?_); refine bx_ (N := 1) (cs := #[.int .i64 a0_0, .string a0_1, .int .i64 a0_2, .int .i64 a0_3]) (t := 46) ?_; intro gb358 hg w37 hbox hb; refine cut4_ (below_step (bl_ HB.out) hb) (hbox) (bz_ (w := w) hg (bl_ HB.out)) (bz_ (w := w) hg (bl_ HB.out)) ?_; clear HB; intro HB BK358 GW358 GE358; clear hb hbox hg; obtain ⟨hcz38_0, hcz38_1, hcz38_2, hcz38_3, hfz38_0, hfz38_1, hfz38_2, hfz38_3⟩ := cq4_ BK358.out) | ((with_reducible refine gate_callee (f := 36) rfl ?_); refine goesL_ (some 8) rfl rfl Tryd.func36 (by kernel_rfl) rfl #[.agg #[.int .i64 a0_0, .string a0_1, .int .i64 a0_2, .int .i64 a0_3]] rfl ga_ ?_; (with_reducible refine (lexer_Valid.calls k a0_0 a0_1 a0_2 a0_3 true _ A2.out).mono ?_); rintro e w39 ⟨rfl, hb⟩; refine ⟨_, rfl, ?_⟩; refine cut2_ (bb_ BK358.out hb) (below_step (bl1_ HB.out GE358.out) hb) ?_; clear BK358 HB; intro BK358 HB; (try clear hb); (try clear hb2); (try clear hk); (try clear hi); obtain ⟨hcz40_0, hcz40_1, hcz40_2, hcz40_3, hfz40_0, hfz40_1, hfz40_2, hfz40_3⟩ := cq4_ BK358.out))
    go_ret2
    exact ⟨er_, bl1_ HB.out GE358.out⟩
 ·
  replace c3 := Bool.eq_false_iff.mpr c3
  subst c3
  have H1 : (some ((⟨#[]⟩ : ByteArray), 1)) = some (r1, r2) := by rw [if_neg (show ¬ (false = true) by decide)] at H; exact H
  clear H
  have H := H1
  clear H1
  simp only [Option.some.injEq, Prod.mk.injEq] at H
  obtain ⟨rfl, rfl⟩ := H
  go_enter Tryd.func35, Tryd.ntmps35
  go_wp2_with (first | ((with_reducible refine gate_dst (N := 1) rfl ?_); refine bx_ (N := 1) (cs := #[.int .i64 a0_0, .string a0_1, .int .i64 a0_2, .int .i64 a0_3]) (t := 46) ?_; intro gb358 hg w41 hbox hb; refine cut4_ (below_step (bl_ HB.out) hb) (hbox) (bz_ (w := w) hg (bl_ HB.out)) (bz_ (w := w) hg (bl_ HB.out)) ?_; clear HB; intro HB BK358 GW358 GE358; clear hb hbox hg; obtain ⟨hcz42_0, hcz42_1, hcz42_2, hcz42_3, hfz42_0, hfz42_1, hfz42_2, hfz42_3⟩ := cq4_ BK358.out) | ((with_reducible refine gate_callee (f := 36) rfl ?_); refine goesL_ (some 8) rfl rfl Tryd.func36 (by kernel_rfl) rfl #[.agg #[.int .i64 a0_0, .string a0_1, .int .i64 a0_2, .int .i64 a0_3]] rfl ga_ ?_; (with_reducible refine (lexer_Valid.calls k a0_0 a0_1 a0_2 a0_3 false _ A2.out).mono ?_); rintro e w43 ⟨rfl, hb⟩; refine ⟨_, rfl, ?_⟩; refine cut2_ (bb_ BK358.out hb) (below_step (bl1_ HB.out GE358.out) hb) ?_; clear BK358 HB; intro BK358 HB; (try clear hb); (try clear hb2); (try clear hk); (try clear hi)))
  go_ret2
  exact ⟨er_, bl1_ HB.out GE358.out⟩
end Go.Proofs.YtkifdadhojbohaaDoor.Pr
namespace Go.Proofs.YtkifdadhojbohaaDoor.Pu
open Go.RowKit Go.Proofs.YtkifdadhojbohaaDoor Go.Proofs.YtkifdadhojbohaaDoor.Pr Go.Proofs.YtkifdadhojbohaaDoorW.PrintWords Go.Proofs.YtkifdadhojbohaaDoorW.PrintLast
theorem isWord_f (s : ByteArray) (hs : s.size ≤ 1000000) : Ev (fun k => lexer_isWord.f k s) ((lst s).all isRunB && wordL (lst s) == 0) := by
  have loop : ∀ (d i : Nat) (l : List UInt8), i ≤ s.size → s.size - i = d → (lst s).drop i = l → Ev (fun k => lexer_isWord.l0 k s s.size i) (l.all isRunB && wordL (lst s) == 0) := by
    intro d
    induction d with
    | zero =>
      intro i l hi hd hl
      obtain rfl : i = s.size := by omega
      obtain rfl : l = [] := by rw [← hl]; exact List.drop_eq_nil_of_le (by rw [lst_length]; omega)
      refine Ev.succ ?_
      simp only [lexer_isWord.l0]
      exact Ev.ifn (by omega) (Ev.bind (word_f s hs) (Ev.ret (by simp)))
    | succ d ih =>
      intro i l hi hd hl
      cases l with
      | nil => exact absurd (at_nil hi hl) (by omega)
      | cons c l =>
        obtain ⟨h1, h2, h3⟩ := at_cons hl
        refine Ev.succ ?_
        simp only [lexer_isWord.l0]
        rw [h2, wrap_nat i (by omega)]
        refine Ev.ifp (by omega) (Ev.ifp (by omega) (Ev.ifp (by omega) (Ev.val (isRun_f c) ?_)))
        by_cases hr : isRunB c = true
        · refine Ev.ifp hr ?_
          have := ih (i + 1) l (by omega) (by omega) h3
          rw [List.all_cons, hr, Bool.true_and]
          exact this
        · refine Ev.ifn hr (Ev.ret ?_)
          rw [Bool.not_eq_true] at hr
          rw [List.all_cons, hr]; rfl
  unfold lexer_isWord.f
  exact loop _ 0 (lst s) (by omega) rfl rfl
theorem list1 (s : ByteArray) (h : s.size = 1) : ∃ c, lst s = [c] ∧ bt s 0 = (c.toNat : Int) := by
  obtain ⟨c, hc, hb⟩ := head_bt (s := s) (by omega)
  have hl : (lst s).length = 1 := by rw [lst_length]; exact h
  match hx : lst s, hl with
  | [x], _ =>
    rw [hx] at hc
    simp only [List.head?_cons, Option.some.injEq] at hc
    subst hc
    exact ⟨x, rfl, hb⟩
theorem valid_f (k0 : Int) (s : ByteArray) (hs : s.size ≤ 1000000) (n a : Int) : Ev (fun k => lexer_Valid.f k k0 s n a) (validB k0 (lst s) n) := by
  have j0 : Ev (fun k => lexer_Valid.j0 k false k0 s n a) (validB k0 (lst s) (if k0 = 2 then n else 0)) := by
    refine Ev.succ ?_
    simp only [lexer_Valid.j0]
    refine Ev.ifn (by decide) ?_
    unfold validB
    by_cases h1 : k0 = 1
    · subst h1
      refine Ev.ifp rfl ?_
      by_cases h : s.toList = []
      · refine Ev.ifp h (Ev.ret ?_)
        rw [toList_lst] at h
        rw [h]; rfl
      · refine Ev.ifn h (Ev.bind (isWord_f s hs) (Ev.ret ?_))
        simp
    · refine Ev.ifn h1 ?_
      by_cases h2 : k0 = 2
      · subst h2
        refine Ev.ifp rfl ?_
        by_cases h : s.toList = []
        · refine Ev.ifp h ?_
          rw [toList_lst] at h
          by_cases h3 : 0 ≤ n
          · exact Ev.ifp h3 (Ev.ret (by simp [h, h3]))
          · exact Ev.ifn h3 (Ev.ret (by simp [h, h3]))
        · refine Ev.ifn h (Ev.ret ?_)
          rw [toList_lst] at h
          simp [h]
      · refine Ev.ifn h2 ?_
        by_cases h3 : k0 = 3
        · subst h3
          exact Ev.ifp rfl (Ev.bind (title_f s hs) (Ev.ret (by simp)))
        · refine Ev.ifn h3 ?_
          by_cases h4 : k0 = 4
          · subst h4
            refine Ev.ifp rfl ?_
            by_cases h : (s.size : Int) = 1
            · obtain ⟨c, hc, hb⟩ := list1 s (by omega)
              refine Ev.ifp h (Ev.val kinds_f (Ev.ifp (by omega) (Ev.ifp (by rw [hb]; omega) (Ev.ifp (by rw [hb]; exact byte_lt c) (Ev.ret ?_)))))
              rw [hb, at_byte, hc]
              simp
              by_cases h5 : kindOf c.toNat = 5
              · simp [h5]
              · rw [beq_eq_false_iff_ne.2 h5, beq_eq_false_iff_ne]; omega
            · refine Ev.ifn h (Ev.ret ?_)
              have : ¬ (lst s).length = 1 := by rw [lst_length]; omega
              simp [this]
          · refine Ev.ifn h4 ?_
            by_cases h5 : k0 = 5
            · subst h5
              exact Ev.ifp rfl (Ev.ret (by rw [toList_lst]; simp))
            · exact Ev.ifn h5 (Ev.ret (by simp [h1, h2, h3, h4, h5]))
  unfold lexer_Valid.f
  by_cases h2 : k0 = 2
  · rw [if_pos h2] at j0
    exact Ev.ifp h2 j0
  · rw [if_neg h2] at j0
    refine Ev.ifn h2 ?_
    by_cases hn : n = 0
    · subst hn; exact j0
    · rw [show (n != 0) = true by simpa using hn]
      refine Ev.succ ?_
      simp only [lexer_Valid.j0]
      exact Ev.ifp (by simp) (Ev.ret (by unfold validB; rw [if_pos ⟨h2, hn⟩]))
theorem Spell_num (m : Nat) (hm : m ≤ 1000000000) (f : ByteArray → ByteArray → Option (ByteArray × Int)) (hf : f (str (Lib.decDigits (m / 1000))) (str (cutZ (three (m % 1000)))) = some (str (numS m), 0)) :
    ((strconv_FormatInt.f (wrap64 ((m : Int) + 1000)) 10).bind fun t360 => ((strconv_FormatInt.f (wrap64 (Int.tdiv (m : Int) 1000)) 10).bind fun t361 => (if 0 ≤ (wrap64 ((t360.size : Int) - 3)) then (if (wrap64 ((t360.size : Int) - 3)) ≤ (t360.size : Int) then ((strings_TrimRight.f (t360.extract ((wrap64 ((t360.size : Int) - 3)) : Int).toNat t360.size) (⟨#[48]⟩ : ByteArray)).bind fun t362 => f t361 t362) else (none)) else (none)))) = some (str (numS m), 0) := by
  have e1 : wrap64 (Int.tdiv (m : Int) 1000) = ((m / 1000 : Nat) : Int) := by
    rw [show Int.tdiv (m : Int) 1000 = ((m / 1000 : Nat) : Int) from rfl, wrap64_of (by omega) (by omega)]
  have e2 : wrap64 ((m : Int) + 1000) = (((m / 1000 + 1) * 1000 + m % 1000 : Nat) : Int) := by
    rw [wrap64_of (by omega) (by omega)]; omega
  have hl := dec_len (m / 1000 + 1) (by omega)
  have hl2 := (dec_spec (m / 1000 + 1)).2.2.1
  rw [e1, e2, fmt_f _ (by omega), fmt_f _ (by omega), dec_thousand _ (by omega) _ (by omega)]
  simp only [Option.bind_some]
  have hsz : (str (Lib.decDigits (m / 1000 + 1) ++ three (m % 1000))).size = (Lib.decDigits (m / 1000 + 1)).length + 3 := by
    rw [size_str, List.length_append]; rfl
  rw [hsz, wrap64_of (by omega) (by omega), show (((Lib.decDigits (m / 1000 + 1)).length + 3 : Nat) : Int) - 3 = ((Lib.decDigits (m / 1000 + 1)).length : Int) by omega, if_pos (by omega), if_pos (by omega), Int.toNat_natCast]
  have hx : (str (Lib.decDigits (m / 1000 + 1) ++ three (m % 1000))).extract (Lib.decDigits (m / 1000 + 1)).length ((Lib.decDigits (m / 1000 + 1)).length + 3) = str (three (m % 1000)) := by
    apply lst_inj
    rw [lst_extract, lst_str, lst_str, List.take_of_length_le (by rw [List.length_append]; exact Nat.le_refl _), List.drop_left]
  rw [hx]
  have ht : strings_TrimRight.f (str (three (m % 1000))) (⟨#[48]⟩ : ByteArray) = some (str (cutZ (three (m % 1000)))) := by
    unfold strings_TrimRight.f
    rw [if_pos ⟨rfl, by rw [size_str]; simp [three]⟩]
    rfl
  rw [ht]
  exact hf
theorem Spell_f (k0 : Int) (s : ByteArray) (hs : s.size ≤ 1000000) (n a : Int) : Ev (fun k => lexer_Spell.f k k0 s n a) (if validB k0 (lst s) n = true then (str (spellS k0 (lst s) n), 0) else (⟨#[]⟩, 1)) := by
  unfold lexer_Spell.f
  refine Ev.bind (valid_f k0 s hs n a) ?_
  cases hv : validB k0 (lst s) n with
  | false => exact Ev.ifn (by simp) (Ev.ret (by simp))
  | true =>
    refine Ev.ifp rfl ?_
    rw [if_pos rfl]
    by_cases h3 : k0 = 3
    · subst h3
      refine Ev.ifp rfl (Ev.ifp (by omega) (Ev.ifp ?_ (Ev.ret ?_)))
      · rw [ByteArray.size_append]; show 1 + s.size + 1 ≤ _; omega
      · congr 1
    · refine Ev.ifn h3 ?_
      by_cases h2 : k0 = 2
      · subst h2
        refine Ev.ifp rfl ?_
        have hv2 := hv
        unfold validB at hv2
        rw [if_neg (by rintro ⟨h, _⟩; exact h rfl), if_neg (by decide), if_pos rfl, Bool.and_eq_true, Bool.and_eq_true, decide_eq_true_eq, decide_eq_true_eq, beq_iff_eq] at hv2
        obtain ⟨⟨h0, g0⟩, g1⟩ := hv2
        obtain ⟨m, rfl⟩ : ∃ m : Nat, n = (m : Int) := ⟨n.toNat, by omega⟩
        have e : spellS 2 (lst s) (m : Int) = numS m := by
          unfold spellS
          rw [if_neg (by decide), if_pos rfl, if_pos ⟨g0, g1⟩]; rfl
        rw [e]
        have hl := numS_len m (by omega)
        refine Ev.const (Spell_num m (by omega) _ ?_)
        have hlen : (numS m).length = (Lib.decDigits (m / 1000)).length + (if cutZ (three (m % 1000)) = [] then 0 else (cutZ (three (m % 1000))).length + 1) := by
          unfold numS; rw [List.length_append]; split <;> simp
        by_cases hz : cutZ (three (m % 1000)) = []
        · rw [if_pos (by rw [toList_lst, lst_str]; exact hz)]
          unfold numS; rw [if_pos hz, List.append_nil]
        · rw [if_neg hz] at hlen
          rw [if_neg (by rw [toList_lst, lst_str]; exact hz), show (⟨#[46]⟩ : ByteArray) = str [46] from rfl, str_append, str_append, size_str, size_str, size_str, if_pos (by omega), if_pos (by rw [List.length_append]; simp; omega)]
          unfold numS; rw [if_neg hz]; simp
      · refine Ev.ifn h2 (Ev.ret ?_)
        unfold spellS
        rw [if_neg h3, if_neg h2]
        by_cases h14 : k0 = 1 ∨ k0 = 4
        · rw [if_pos h14, str_lst]
        · rw [if_neg h14]
          have hv2 := hv
          unfold validB at hv2
          by_cases hn : k0 ≠ 2 ∧ n ≠ 0
          · rw [if_pos hn] at hv2; cases hv2
          · rw [if_neg hn, if_neg (fun h => h14 (.inl h)), if_neg h2, if_neg h3, if_neg (fun h => h14 (.inr h))] at hv2
            by_cases h5 : k0 = 5
            · rw [if_pos h5, beq_iff_eq] at hv2
              congr 1
              apply lst_inj; rw [hv2]; rfl
            · rw [if_neg h5] at hv2; cases hv2
end Go.Proofs.YtkifdadhojbohaaDoor.Pu
namespace Go.Proofs.YtkifdadhojbohaaDoor.Pr
open Go.Proofs.YtkifdadhojbohaaDoor
open Go.RowKit Go.Proofs.YtkifdadhojbohaaDoorW.PrintWords Go.Proofs.YtkifdadhojbohaaDoorW.PrintLast Go.Proofs.YtkifdadhojbohaaDoorW.PrintMore
attribute [local go_sem] max2_int min2_int max_two min_two max_three min_three max_four min_four   -- for this text's walks alone
set_option linter.unusedVariables false
set_option linter.unusedSimpArgs false
/-! ### salchowlaw10_tokens: function 27 -/
mutual
def salchowlaw10_tokens.l0 : Nat → List (S41) → List (S46) → Int → Option ((List (S46)))
 | 0, _, _, _ => none
 | k + 1, x0, x3, x4 => if x4 < (x0.length : Int) then (if 0 ≤ x4 then (if x3.length < 3518437208883 then ((some (x3 ++ [(⟨1, (rd_T41 x0 x4).f0, 0, 0⟩ : S46)] : List (S46))).bind fun y323 => (if y323.length + ((rd_T41 x0 x4).f1).length < 3518437208883 then ((some (y323 ++ ((rd_T41 x0 x4).f1) : List (S46))).bind fun y327 => (if ((rd_T41 x0 x4).f2 = true) then (if y327.length < 3518437208883 then ((some (y327 ++ [(⟨4, (⟨#[123]⟩ : ByteArray), 0, 0⟩ : S46)] : List (S46))).bind fun y331 => ((salchowlaw10_tokens.f k ((rd_T41 x0 x4).f3)).bind fun t335 => (if y331.length + t335.length < 3518437208883 then ((some (y331 ++ t335 : List (S46))).bind fun y338 => (if y338.length < 3518437208883 then (salchowlaw10_tokens.l0 k x0 (y338 ++ [(⟨4, (⟨#[125]⟩ : ByteArray), 0, 0⟩ : S46)]) (wrap64 (x4 + 1))) else (none))) else (none)))) else (none)) else (if y327.length < 3518437208883 then (salchowlaw10_tokens.l0 k x0 (y327 ++ [(⟨4, (⟨#[59]⟩ : ByteArray), 0, 0⟩ : S46)]) (wrap64 (x4 + 1))) else (none)))) else (none))) else (none)) else (none)) else (some x3)
def salchowlaw10_tokens.f : Nat → List (S41) → Option ((List (S46)))
 | 0, _ => none
 | k + 1, l0 => salchowlaw10_tokens.l0 k l0 ([] : List (S46)) 0
end
theorem salchowlaw10_tokens.mono_l : ∀ k, (∀ y0, LeO (salchowlaw10_tokens.f k y0) (salchowlaw10_tokens.f (k + 1) y0)) ∧ (∀ y0 y1 y2, LeO (salchowlaw10_tokens.l0 k y0 y1 y2) (salchowlaw10_tokens.l0 (k + 1) y0 y1 y2))
 | 0 => ⟨fun _ r h => by simp [salchowlaw10_tokens.f] at h, fun _ _ _ r h => by simp [salchowlaw10_tokens.l0] at h⟩
 | k + 1 => by
  obtain ⟨ih0, ih1⟩ := salchowlaw10_tokens.mono_l k
  refine ⟨?_, ?_⟩
  ·
   intro y0
   unfold salchowlaw10_tokens.f
   repeat' first
   | (with_reducible exact LeO.refl _)
   | exact ih0 _
   | exact ih1 _ _ _
   | exact LeO.none _
   | refine LeO.ite ?_ ?_
   | refine LeO.bind ?_ (fun _ => ?_)
  ·
   intro y0 y1 y2
   unfold salchowlaw10_tokens.l0
   repeat' first
   | (with_reducible exact LeO.refl _)
   | exact ih0 _
   | exact ih1 _ _ _
   | exact LeO.none _
   | refine LeO.ite ?_ ?_
   | refine LeO.bind ?_ (fun _ => ?_)
theorem salchowlaw10_tokens.mono : ∀ a0 k, LeO (salchowlaw10_tokens.f k a0) (salchowlaw10_tokens.f (k + 1) a0) := by
 intro a0 k
 obtain ⟨ih0, ih1⟩ := salchowlaw10_tokens.mono_l k
 exact ih0 a0
set_option maxHeartbeats 8000000 in
set_option maxRecDepth 100000 in
theorem salchowlaw10_tokens.calls (k : Nat) : ∀ (A0 : Option Addr) (c0 : Nat) (l0 : List (S41)) (r : List (S46)) (w : World) (hr0 : Kd.C k41 w A0 l0.length l0) (hc0 : l0.length ≤ c0) (h : salchowlaw10_tokens.f k l0 = some r),
  Calls Tryd.prog 27 #[.slice A0 l0.length c0] w fun e w' => ∃ v0_ : Value, e = .returned (v0_) ∧ Kd.R k46 46 w' w.heap.size (fun _ => True) v0_ r ∧ Below w.heap.size w w' := by
 induction k using Nat.strongRecOn with
 | _ k ih =>
 intro A0 c0 l0 r w hr0 hc0 h
 cases k with
 | zero => exact absurd h (by simp [salchowlaw10_tokens.f])
 | succ k =>
 simp only [salchowlaw10_tokens.f] at h
 have hu46 := Tryd.underlying46
 have HR0 := Aside0.mk hr0
 have HC0 := Aside0.mk hc0
 clear hr0 hc0
 have HB := Aside0.mk (Below.refl w.heap.size w)
 have H : (salchowlaw10_tokens.l0 k l0 ([] : List (S46)) 0) = some r := h
 clear h
 have H' := Aside0.mk H
 clear H
 go_enter Tryd.func27, Tryd.ntmps27
 go_wp2
 go_loopg [3, 4] k (fun kq v3 v4 w' => ∃ (x3_1 : List (S46)) (x4_1 : Int), v4 = .int .i64 x4_1 ∧ Aside0 (salchowlaw10_tokens.l0 kq l0 x3_1 x4_1 = some r) ∧ Aside0 (kq ≤ k) ∧ Aside0 (Kd.R k46 46 w' w.heap.size (fun _ => True) v3 x3_1) ∧ Aside0 (Below w.heap.size w w'))
 case atStart => exact ⟨(([] : List (S46))), (0), sr_, H', ⟨Nat.le_refl _⟩, ⟨ni_⟩, ⟨bl_ HB.out⟩⟩
 case round =>
  clear H'
  obtain ⟨x3_1, x4_1, rfl, HA, HK1, HO_3, HB⟩ := hrel
  cases gk with
  | zero => exact absurd HA.out (by simp [salchowlaw10_tokens.l0])
  | succ k1 =>
   have H := HA.out
   clear HA
   simp only [salchowlaw10_tokens.l0] at H
   by_cases c2 : x4_1 < (l0.length : Int)
   ·
    rw [if_pos c2] at H
    have c2b0 := decide_eq_true c2
    clear c2
    by_cases c3 : 0 ≤ x4_1
    ·
     rw [if_pos c3] at H
     have c3b0 := decide_eq_true c3
     clear c3
     by_cases c4 : x3_1.length < 3518437208883
     ·
      rw [if_pos c4] at H
      have LMc4 := Aside0.mk c4
      clear c4
      obtain ⟨y323, hy323⟩ : ∃ y_ : List (S46), y_ = (x3_1 ++ [(⟨1, (rd_T41 l0 x4_1).f0, 0, 0⟩ : S46)]) := ⟨_, rfl⟩
      replace H : (if y323.length + ((rd_T41 l0 x4_1).f1).length < 3518437208883 then ((some (y323 ++ ((rd_T41 l0 x4_1).f1) : List (S46))).bind fun y327 => (if ((rd_T41 l0 x4_1).f2 = true) then (if y327.length < 3518437208883 then ((some (y327 ++ [(⟨4, (⟨#[123]⟩ : ByteArray), 0, 0⟩ : S46)] : List (S46))).bind fun y331 => ((salchowlaw10_tokens.f k1 ((rd_T41 l0 x4_1).f3)).bind fun t335 => (if y331.length + t335.length < 3518437208883 then ((some (y331 ++ t335 : List (S46))).bind fun y338 => (if y338.length < 3518437208883 then (salchowlaw10_tokens.l0 k1 l0 (y338 ++ [(⟨4, (⟨#[125]⟩ : ByteArray), 0, 0⟩ : S46)]) (wrap64 (x4_1 + 1))) else (none))) else (none)))) else (none)) else (if y327.length < 3518437208883 then (salchowlaw10_tokens.l0 k1 l0 (y327 ++ [(⟨4, (⟨#[59]⟩ : ByteArray), 0, 0⟩ : S46)]) (wrap64 (x4_1 + 1))) else (none)))) else (none)) = some r := by first | (rw [hy323]; with_reducible exact H) | (have H2_ := (Option.bind_some _ _).symm.trans H; rw [hy323]; with_reducible exact H2_) | (have H2_ := (Option.bind_some _ _).symm.trans H; with_reducible exact H2_) | with_reducible exact H | (rw [hy323]; exact H) | exact H
      have Ny323 := Aside0.mk hy323
      clear hy323
      by_cases c5 : y323.length + ((rd_T41 l0 x4_1).f1).length < 3518437208883
      ·
       rw [if_pos c5] at H
       have LMc5 := Aside0.mk c5
       clear c5
       obtain ⟨y327, hy327⟩ : ∃ y_ : List (S46), y_ = (y323 ++ ((rd_T41 l0 x4_1).f1)) := ⟨_, rfl⟩
       replace H : (if ((rd_T41 l0 x4_1).f2 = true) then (if y327.length < 3518437208883 then ((some (y327 ++ [(⟨4, (⟨#[123]⟩ : ByteArray), 0, 0⟩ : S46)] : List (S46))).bind fun y331 => ((salchowlaw10_tokens.f k1 ((rd_T41 l0 x4_1).f3)).bind fun t335 => (if y331.length + t335.length < 3518437208883 then ((some (y331 ++ t335 : List (S46))).bind fun y338 => (if y338.length < 3518437208883 then (salchowlaw10_tokens.l0 k1 l0 (y338 ++ [(⟨4, (⟨#[125]⟩ : ByteArray), 0, 0⟩ : S46)]) (wrap64 (x4_1 + 1))) else (none))) else (none)))) else (none)) else (if y327.length < 3518437208883 then (salchowlaw10_tokens.l0 k1 l0 (y327 ++ [(⟨4, (⟨#[59]⟩ : ByteArray), 0, 0⟩ : S46)]) (wrap64 (x4_1 + 1))) else (none))) = some r := by first | (rw [hy327]; with_reducible exact H) | (have H2_ := (Option.bind_some _ _).symm.trans H; rw [hy327]; with_reducible exact H2_) | (have H2_ := (Option.bind_some _ _).symm.trans H; with_reducible exact H2_) | with_reducible exact H | (rw [hy327]; exact H) | exact H
       have Ny327 := Aside0.mk hy327
       clear hy327
       obtain ⟨bq6, hbq6⟩ : ∃ b_ : Bool, b_ = ((rd_T41 l0 x4_1).f2) := ⟨_, rfl⟩
       replace H : (if (bq6 = true) then (if y327.length < 3518437208883 then ((some (y327 ++ [(⟨4, (⟨#[123]⟩ : ByteArray), 0, 0⟩ : S46)] : List (S46))).bind fun y331 => ((salchowlaw10_tokens.f k1 ((rd_T41 l0 x4_1).f3)).bind fun t335 => (if y331.length + t335.length < 3518437208883 then ((some (y331 ++ t335 : List (S46))).bind fun y338 => (if y338.length < 3518437208883 then (salchowlaw10_tokens.l0 k1 l0 (y338 ++ [(⟨4, (⟨#[125]⟩ : ByteArray), 0, 0⟩ : S46)]) (wrap64 (x4_1 + 1))) else (none))) else (none)))) else (none)) else (if y327.length < 3518437208883 then (salchowlaw10_tokens.l0 k1 l0 (y327 ++ [(⟨4, (⟨#[59]⟩ : ByteArray), 0, 0⟩ : S46)]) (wrap64 (x4_1 + 1))) else (none))) = some r := by rw [← hbq6] at H; exact H
       have Nbq6 := Aside0.mk hbq6
       clear hbq6
       by_cases c7 : (bq6 = true)
       ·
        subst c7
        have H1 : (if y327.length < 3518437208883 then ((some (y327 ++ [(⟨4, (⟨#[123]⟩ : ByteArray), 0, 0⟩ : S46)] : List (S46))).bind fun y331 => ((salchowlaw10_tokens.f k1 ((rd_T41 l0 x4_1).f3)).bind fun t335 => (if y331.length + t335.length < 3518437208883 then ((some (y331 ++ t335 : List (S46))).bind fun y338 => (if y338.length < 3518437208883 then (salchowlaw10_tokens.l0 k1 l0 (y338 ++ [(⟨4, (⟨#[125]⟩ : ByteArray), 0, 0⟩ : S46)]) (wrap64 (x4_1 + 1))) else (none))) else (none)))) else (none)) = some r := by rw [if_pos rfl] at H; exact H
        clear H
        have H := H1
        clear H1
        by_cases c8 : y327.length < 3518437208883
        ·
         rw [if_pos c8] at H
         have LMc8 := Aside0.mk c8
         clear c8
         obtain ⟨y331, hy331⟩ : ∃ y_ : List (S46), y_ = (y327 ++ [(⟨4, (⟨#[123]⟩ : ByteArray), 0, 0⟩ : S46)]) := ⟨_, rfl⟩
         replace H : ((salchowlaw10_tokens.f k1 ((rd_T41 l0 x4_1).f3)).bind fun t335 => (if y331.length + t335.length < 3518437208883 then ((some (y331 ++ t335 : List (S46))).bind fun y338 => (if y338.length < 3518437208883 then (salchowlaw10_tokens.l0 k1 l0 (y338 ++ [(⟨4, (⟨#[125]⟩ : ByteArray), 0, 0⟩ : S46)]) (wrap64 (x4_1 + 1))) else (none))) else (none))) = some r := by first | (rw [hy331]; with_reducible exact H) | (have H2_ := (Option.bind_some _ _).symm.trans H; rw [hy331]; with_reducible exact H2_) | (have H2_ := (Option.bind_some _ _).symm.trans H; with_reducible exact H2_) | with_reducible exact H | (rw [hy331]; exact H) | exact H
         have Ny331 := Aside0.mk hy331
         clear hy331
         replace H := Option.bind_eq_some_iff.mp H
         obtain ⟨t335, A90, H⟩ := H
         (try dsimp only at H)
         have A9 := Aside0.mk A90
         clear A90
         by_cases c10 : y331.length + t335.length < 3518437208883
         ·
          rw [if_pos c10] at H
          have LMc10 := Aside0.mk c10
          clear c10
          obtain ⟨y338, hy338⟩ : ∃ y_ : List (S46), y_ = (y331 ++ t335) := ⟨_, rfl⟩
          replace H : (if y338.length < 3518437208883 then (salchowlaw10_tokens.l0 k1 l0 (y338 ++ [(⟨4, (⟨#[125]⟩ : ByteArray), 0, 0⟩ : S46)]) (wrap64 (x4_1 + 1))) else (none)) = some r := by first | (rw [hy338]; with_reducible exact H) | (have H2_ := (Option.bind_some _ _).symm.trans H; rw [hy338]; with_reducible exact H2_) | (have H2_ := (Option.bind_some _ _).symm.trans H; with_reducible exact H2_) | with_reducible exact H | (rw [hy338]; exact H) | exact H
          have Ny338 := Aside0.mk hy338
          clear hy338
          by_cases c11 : y338.length < 3518437208883
          ·
           rw [if_pos c11] at H
           have LMc11 := Aside0.mk c11
           clear c11
           obtain ⟨y341, hy341⟩ : ∃ y_ : List (S46), y_ = (y338 ++ [(⟨4, (⟨#[125]⟩ : ByteArray), 0, 0⟩ : S46)]) := ⟨_, rfl⟩
           replace H : (salchowlaw10_tokens.l0 k1 l0 y341 (wrap64 (x4_1 + 1))) = some r := by first | (rw [hy341]; with_reducible exact H) | (have H2_ := (Option.bind_some _ _).symm.trans H; rw [hy341]; with_reducible exact H2_) | (have H2_ := (Option.bind_some _ _).symm.trans H; with_reducible exact H2_) | with_reducible exact H | (rw [hy341]; exact H) | exact H
           have Ny341 := Aside0.mk hy341
           clear hy341
           have H' := Aside0.mk H
           clear H
           have p322 : 0 ≤ (x4_1 : Int) := dt_
           have q322 : x4_1 < (l0.length : Int) := dt_
           obtain ⟨ad322, A322_1, c322_1, A322_3, c322_3, e322, hx322_0, hx322_1, hx322_2, hx322_3, hx322_4, hl322_1, hi322_1, hl322_3, hi322_3⟩ := at_T41 HR0.out x4_1 p322 q322
           (try rw [← Nbq6.out] at hx322_2)
           cases e322
           replace hx322_0 := pw_cell_below HB.out hx322_0
           replace hx322_1 := pw_cell_below HB.out hx322_1
           replace hx322_2 := pw_cell_below HB.out hx322_2
           replace hx322_3 := pw_cell_below HB.out hx322_3
           replace hx322_4 := pw_cell_below HB.out hx322_4
           have HR322_1 := Aside0.mk hi322_1
           have HC322_1 := Aside0.mk hl322_1
           clear hi322_1 hl322_1
           have HR322_3 := Aside0.mk hi322_3
           have HC322_3 := Aside0.mk hl322_3
           clear hi322_3 hl322_3
           replace p322 := eq_true p322
           replace q322 := eq_true q322
           go_wp2_with (first | ((with_reducible refine gate_builtin (b := .append) (xs := #[.tmp 11, .tmp 18]) rfl ?_); at_builtin; refine Kd.R_append k46 (w0 := w) w.heap.size rfl (.tmp 11) (.tmp 18) 31 46 (.agg #[(.int .i64 0), (.string ⟨#[]⟩), (.int .i64 0), (.int .i64 0)]) 40 rfl Tryd.underlying31 info46 rfl (by decide) (by omega) u3 x3_1 (⟨1, (rd_T41 l0 x4_1).f0, 0, 0⟩ : S46) [.int .i64 1, .string ((rd_T41 l0 x4_1).f0), .int .i64 0, .int .i64 0] (fun _ => True) (fun _ => False) rfl rfl ?aP (fun _ hk => hk.elim) ?aF ?aO ?aB ?aS ?aL ?_; (case aP => exact k46_mkM _ _ _ (⟨1, (rd_T41 l0 x4_1).f0, 0, 0⟩ : S46)); (case aB => exact (bl_ HB.out)); (case aF => exact (fun _ _ => trivial)); (case aO => exact (rR_ HO_3.out)); (case aS => exact (below_size (bl_ HB.out))); (case aL => have := LMc4.out; omega); intro v324 w12 ho hb hg hat; rw [← Ny323.out] at ho; refine cut2_ (hb) (ho) ?_; clear HB HO_3; intro HB HO325; clear ho hb hg hat; have p326 : 0 ≤ (x4_1 : Int) := dt_; have q326 : x4_1 < (l0.length : Int) := dt_; obtain ⟨ad326, A326_1, c326_1, A326_3, c326_3, e326, hx326_0, hx326_1, hx326_2, hx326_3, hx326_4, hl326_1, hi326_1, hl326_3, hi326_3⟩ := at_T41 HR0.out x4_1 p326 q326; (try rw [← Nbq6.out] at hx326_2); obtain rfl : ad322 = ad326 := (by injection e326); replace hx326_0 := pw_cell_below HB.out hx326_0; replace hx326_1 := pw_cell_below HB.out hx326_1; replace hx326_2 := pw_cell_below HB.out hx326_2; replace hx326_3 := pw_cell_below HB.out hx326_3; replace hx326_4 := pw_cell_below HB.out hx326_4; have HR326_1 := Aside0.mk hi326_1; have HC326_1 := Aside0.mk hl326_1; clear hi326_1 hl326_1; have HR326_3 := Aside0.mk hi326_3; have HC326_3 := Aside0.mk hl326_3; clear hi326_3 hl326_3; replace p326 := eq_true p326; replace q326 := eq_true q326) | ((with_reducible refine gate_builtin (b := .append) (xs := #[.tmp 20, .tmp 25]) rfl ?_); at_builtin; refine Kd.R_append_rows k46 (w0 := w) w.heap.size rfl (.tmp 20) (.tmp 25) 31 46 (.agg #[(.int .i64 0), (.string ⟨#[]⟩), (.int .i64 0), (.int .i64 0)]) 40 rfl Tryd.underlying31 info46 rfl (by decide) (by omega) v324 y323 ((rd_T41 l0 x4_1).f1) _ _ _ (fun _ => True) (fun _ => False) rfl rfl ?aO ?aR (fun _ _ h => h) (fun _ h => h.elim) ?aF ?aB ?aS ?aL ?_; (case aR => repeat (first | exact (Kd.C_below HR326_1.out HB.out) | (with_reducible refine Kd.C_alloc ?_ _) | (with_reducible refine Kd.C_drewN ?_ _) | (with_reducible refine Kd.C_drew ?_))); (case aB => exact (bl_ HB.out)); (case aF => exact (fun _ _ => trivial)); (case aO => exact (rR_ HO325.out)); (case aS => exact (below_size (bl_ HB.out))); (case aL => have := LMc5.out; omega); intro v328 w13 ho hb hg hat; rw [← Ny327.out] at ho; refine cut2_ (hb) (ho) ?_; clear HB HO325; intro HB HO329; clear ho hb hg hat; have p330 : 0 ≤ (x4_1 : Int) := dt_; have q330 : x4_1 < (l0.length : Int) := dt_; obtain ⟨ad330, A330_1, c330_1, A330_3, c330_3, e330, hx330_0, hx330_1, hx330_2, hx330_3, hx330_4, hl330_1, hi330_1, hl330_3, hi330_3⟩ := at_T41 HR0.out x4_1 p330 q330; (try rw [← Nbq6.out] at hx330_2); obtain rfl : ad322 = ad330 := (by injection e330); replace hx330_0 := pw_cell_below HB.out hx330_0; replace hx330_1 := pw_cell_below HB.out hx330_1; replace hx330_2 := pw_cell_below HB.out hx330_2; replace hx330_3 := pw_cell_below HB.out hx330_3; replace hx330_4 := pw_cell_below HB.out hx330_4; have HR330_1 := Aside0.mk hi330_1; have HC330_1 := Aside0.mk hl330_1; clear hi330_1 hl330_1; have HR330_3 := Aside0.mk hi330_3; have HC330_3 := Aside0.mk hl330_3; clear hi330_3 hl330_3; replace p330 := eq_true p330; replace q330 := eq_true q330) | ((with_reducible refine gate_builtin (b := .append) (xs := #[.tmp 37, .tmp 39]) rfl ?_); at_builtin; refine Kd.R_append k46 (w0 := w) w.heap.size rfl (.tmp 37) (.tmp 39) 31 46 (.agg #[(.int .i64 0), (.string ⟨#[]⟩), (.int .i64 0), (.int .i64 0)]) 40 rfl Tryd.underlying31 info46 rfl (by decide) (by omega) v328 y327 (⟨4, (⟨#[123]⟩ : ByteArray), 0, 0⟩ : S46) [.int .i64 4, .string (⟨#[123]⟩ : ByteArray), .int .i64 0, .int .i64 0] (fun _ => True) (fun _ => False) rfl rfl ?aP (fun _ hk => hk.elim) ?aF ?aO ?aB ?aS ?aL ?_; (case aP => exact k46_mkM _ _ _ (⟨4, (⟨#[123]⟩ : ByteArray), 0, 0⟩ : S46)); (case aB => exact (bl_ HB.out)); (case aF => exact (fun _ _ => trivial)); (case aO => exact (rR_ HO329.out)); (case aS => exact (below_size (bl_ HB.out))); (case aL => have := LMc8.out; omega); intro v332 w14 ho hb hg hat; rw [← Ny331.out] at ho; refine cut2_ (hb) (ho) ?_; clear HB HO329; intro HB HO333; clear ho hb hg hat; have p334 : 0 ≤ (x4_1 : Int) := dt_; have q334 : x4_1 < (l0.length : Int) := dt_; obtain ⟨ad334, A334_1, c334_1, A334_3, c334_3, e334, hx334_0, hx334_1, hx334_2, hx334_3, hx334_4, hl334_1, hi334_1, hl334_3, hi334_3⟩ := at_T41 HR0.out x4_1 p334 q334; (try rw [← Nbq6.out] at hx334_2); obtain rfl : ad322 = ad334 := (by injection e334); replace hx334_0 := pw_cell_below HB.out hx334_0; replace hx334_1 := pw_cell_below HB.out hx334_1; replace hx334_2 := pw_cell_below HB.out hx334_2; replace hx334_3 := pw_cell_below HB.out hx334_3; replace hx334_4 := pw_cell_below HB.out hx334_4; have HR334_1 := Aside0.mk hi334_1; have HC334_1 := Aside0.mk hl334_1; clear hi334_1 hl334_1; have HR334_3 := Aside0.mk hi334_3; have HC334_3 := Aside0.mk hl334_3; clear hi334_3 hl334_3; replace p334 := eq_true p334; replace q334 := eq_true q334) | ((with_reducible refine gate_callee (f := 27) rfl ?_); refine goesL_ (some 47) rfl rfl Tryd.func27 (by kernel_rfl) rfl #[.slice A334_3 ((rd_T41 l0 x4_1).f3).length c334_3] rfl ga_ ?_; (with_reducible refine (ih k1 (by have := HK1.out; omega) _ _ ((rd_T41 l0 x4_1).f3) t335 _ ?side1 ?side2 A9.out).mono ?_); (case side1 => repeat (first | exact (Kd.C_below HR334_3.out HB.out) | (with_reducible refine Kd.C_alloc ?_ _) | (with_reducible refine Kd.C_drewN ?_ _) | (with_reducible refine Kd.C_drew ?_))); (case side2 => exact HC334_3.out); rintro e w15 ⟨v336, rfl, ho0, hb⟩; refine ⟨_, rfl, ?_⟩; refine cut3_ (Kd.R_elder' (rR_ HO333.out) (Kd.R_base ho0) hb) (Kd.R_lower (Kd.R_new' ho0 (Kd.R_lt (rR_ HO333.out))) (below_size (bl_ HB.out))) (below_step (bl_ HB.out) hb) ?_; clear HO333 HB; intro HO333 HO337 HB; (try clear hb); (try clear hb2); (try clear hk); (try clear hi); (try clear ho0); obtain ⟨Ao17, co17, eo17⟩ := Kd.R_slice HO337.out; subst eo17) | ((with_reducible refine gate_builtin (b := .append) (xs := #[.tmp 41, .tmp 47]) rfl ?_); at_builtin; refine Kd.R_append_rows k46 (w0 := w) w.heap.size rfl (.tmp 41) (.tmp 47) 31 46 (.agg #[(.int .i64 0), (.string ⟨#[]⟩), (.int .i64 0), (.int .i64 0)]) 40 rfl Tryd.underlying31 info46 rfl (by decide) (by omega) v332 y331 t335 _ _ _ (fun k_ => some k_ ≠ (.slice Ao17 t335.length co17 : Value).ownBlock) (fun _ => False) rfl rfl ?aO ?aR (fun _ _ h => h) (fun _ h => h.elim) ?aF ?aB ?aS ?aL ?_; (case aR => repeat (first | exact (Kd.R_reads' HO337.out).2.2 | (with_reducible refine Kd.C_alloc ?_ _) | (with_reducible refine Kd.C_drewN ?_ _) | (with_reducible refine Kd.C_drew ?_))); (case aB => exact (bl_ HB.out)); (case aF => exact (fun k_ hk => Kd.fresh' (Kd.R_lt (rR_ HO337.out)) k_ hk)); (case aO => exact (rR_ (Kd.R_mono HO333.out (fun _ hk => hk.2)))); (case aS => exact (below_size (bl_ HB.out))); (case aL => have := LMc10.out; omega); intro v339 w16 ho hb hg hat; rw [← Ny338.out] at ho; refine cut3_ (Kd.R_after (ok := (fun _ => True)) (rR_ HO337.out) hg hat) (hb) (ho) ?_; clear HO337 HB HO333; intro HO337 HB HO340; clear ho hb hg hat) | ((with_reducible refine gate_builtin (b := .append) (xs := #[.tmp 49, .tmp 51]) rfl ?_); at_builtin; refine Kd.R_append k46 (w0 := w) w.heap.size rfl (.tmp 49) (.tmp 51) 31 46 (.agg #[(.int .i64 0), (.string ⟨#[]⟩), (.int .i64 0), (.int .i64 0)]) 40 rfl Tryd.underlying31 info46 rfl (by decide) (by omega) v339 y338 (⟨4, (⟨#[125]⟩ : ByteArray), 0, 0⟩ : S46) [.int .i64 4, .string (⟨#[125]⟩ : ByteArray), .int .i64 0, .int .i64 0] (fun k_ => some k_ ≠ (.slice Ao17 t335.length co17 : Value).ownBlock) (fun _ => False) rfl rfl ?aP (fun _ hk => hk.elim) ?aF ?aO ?aB ?aS ?aL ?_; (case aP => exact k46_mkM _ _ _ (⟨4, (⟨#[125]⟩ : ByteArray), 0, 0⟩ : S46)); (case aB => exact (bl_ HB.out)); (case aF => exact (fun k_ hk => Kd.fresh' (Kd.R_lt (rR_ HO337.out)) k_ hk)); (case aO => exact (rR_ HO340.out)); (case aS => exact (below_size (bl_ HB.out))); (case aL => have := LMc11.out; omega); intro v342 w18 ho hb hg hat; rw [← Ny341.out] at ho; refine cut3_ (Kd.R_after (ok := (fun _ => True)) (rR_ HO337.out) hg hat) (hb) (ho) ?_; clear HO337 HB HO340; intro HO337 HB HO343; clear ho hb hg hat))
           go_roundg k1
           case measure => have := HK1.out; omega
           case rel => exact ⟨(y341), (wrap64 (x4_1 + 1)), sr_, H', ⟨by have := HK1.out; omega⟩, ⟨by (with_reducible repeat (first | apply Kd.R_alloc | apply Kd.R_drewN | apply Kd.R_drew)); exact Kd.R_mono HO343.out (fun _ hk => trivial)⟩, ⟨bl_ HB.out⟩⟩
          ·
           rw [if_neg c11] at H
           exact absurd H (by simp)
         ·
          rw [if_neg c10] at H
          exact absurd H (by simp)
        ·
         rw [if_neg c8] at H
         exact absurd H (by simp)
       ·
        replace c7 := Bool.eq_false_iff.mpr c7
        subst c7
        have H1 : (if y327.length < 3518437208883 then (salchowlaw10_tokens.l0 k1 l0 (y327 ++ [(⟨4, (⟨#[59]⟩ : ByteArray), 0, 0⟩ : S46)]) (wrap64 (x4_1 + 1))) else (none)) = some r := by rw [if_neg (show ¬ (false = true) by decide)] at H; exact H
        clear H
        have H := H1
        clear H1
        by_cases c19 : y327.length < 3518437208883
        ·
         rw [if_pos c19] at H
         have LMc19 := Aside0.mk c19
         clear c19
         obtain ⟨y344, hy344⟩ : ∃ y_ : List (S46), y_ = (y327 ++ [(⟨4, (⟨#[59]⟩ : ByteArray), 0, 0⟩ : S46)]) := ⟨_, rfl⟩
         replace H : (salchowlaw10_tokens.l0 k1 l0 y344 (wrap64 (x4_1 + 1))) = some r := by first | (rw [hy344]; with_reducible exact H) | (have H2_ := (Option.bind_some _ _).symm.trans H; rw [hy344]; with_reducible exact H2_) | (have H2_ := (Option.bind_some _ _).symm.trans H; with_reducible exact H2_) | with_reducible exact H | (rw [hy344]; exact H) | exact H
         have Ny344 := Aside0.mk hy344
         clear hy344
         have H' := Aside0.mk H
         clear H
         have p322 : 0 ≤ (x4_1 : Int) := dt_
         have q322 : x4_1 < (l0.length : Int) := dt_
         obtain ⟨ad322, A322_1, c322_1, A322_3, c322_3, e322, hx322_0, hx322_1, hx322_2, hx322_3, hx322_4, hl322_1, hi322_1, hl322_3, hi322_3⟩ := at_T41 HR0.out x4_1 p322 q322
         (try rw [← Nbq6.out] at hx322_2)
         cases e322
         replace hx322_0 := pw_cell_below HB.out hx322_0
         replace hx322_1 := pw_cell_below HB.out hx322_1
         replace hx322_2 := pw_cell_below HB.out hx322_2
         replace hx322_3 := pw_cell_below HB.out hx322_3
         replace hx322_4 := pw_cell_below HB.out hx322_4
         have HR322_1 := Aside0.mk hi322_1
         have HC322_1 := Aside0.mk hl322_1
         clear hi322_1 hl322_1
         have HR322_3 := Aside0.mk hi322_3
         have HC322_3 := Aside0.mk hl322_3
         clear hi322_3 hl322_3
         replace p322 := eq_true p322
         replace q322 := eq_true q322
         go_wp2_with (first | ((with_reducible refine gate_builtin (b := .append) (xs := #[.tmp 11, .tmp 18]) rfl ?_); at_builtin; refine Kd.R_append k46 (w0 := w) w.heap.size rfl (.tmp 11) (.tmp 18) 31 46 (.agg #[(.int .i64 0), (.string ⟨#[]⟩), (.int .i64 0), (.int .i64 0)]) 40 rfl Tryd.underlying31 info46 rfl (by decide) (by omega) u3 x3_1 (⟨1, (rd_T41 l0 x4_1).f0, 0, 0⟩ : S46) [.int .i64 1, .string ((rd_T41 l0 x4_1).f0), .int .i64 0, .int .i64 0] (fun _ => True) (fun _ => False) rfl rfl ?aP (fun _ hk => hk.elim) ?aF ?aO ?aB ?aS ?aL ?_; (case aP => exact k46_mkM _ _ _ (⟨1, (rd_T41 l0 x4_1).f0, 0, 0⟩ : S46)); (case aB => exact (bl_ HB.out)); (case aF => exact (fun _ _ => trivial)); (case aO => exact (rR_ HO_3.out)); (case aS => exact (below_size (bl_ HB.out))); (case aL => have := LMc4.out; omega); intro v324 w20 ho hb hg hat; rw [← Ny323.out] at ho; refine cut2_ (hb) (ho) ?_; clear HB HO_3; intro HB HO325; clear ho hb hg hat; have p326 : 0 ≤ (x4_1 : Int) := dt_; have q326 : x4_1 < (l0.length : Int) := dt_; obtain ⟨ad326, A326_1, c326_1, A326_3, c326_3, e326, hx326_0, hx326_1, hx326_2, hx326_3, hx326_4, hl326_1, hi326_1, hl326_3, hi326_3⟩ := at_T41 HR0.out x4_1 p326 q326; (try rw [← Nbq6.out] at hx326_2); obtain rfl : ad322 = ad326 := (by injection e326); replace hx326_0 := pw_cell_below HB.out hx326_0; replace hx326_1 := pw_cell_below HB.out hx326_1; replace hx326_2 := pw_cell_below HB.out hx326_2; replace hx326_3 := pw_cell_below HB.out hx326_3; replace hx326_4 := pw_cell_below HB.out hx326_4; have HR326_1 := Aside0.mk hi326_1; have HC326_1 := Aside0.mk hl326_1; clear hi326_1 hl326_1; have HR326_3 := Aside0.mk hi326_3; have HC326_3 := Aside0.mk hl326_3; clear hi326_3 hl326_3; replace p326 := eq_true p326; replace q326 := eq_true q326) | ((with_reducible refine gate_builtin (b := .append) (xs := #[.tmp 20, .tmp 25]) rfl ?_); at_builtin; refine Kd.R_append_rows k46 (w0 := w) w.heap.size rfl (.tmp 20) (.tmp 25) 31 46 (.agg #[(.int .i64 0), (.string ⟨#[]⟩), (.int .i64 0), (.int .i64 0)]) 40 rfl Tryd.underlying31 info46 rfl (by decide) (by omega) v324 y323 ((rd_T41 l0 x4_1).f1) _ _ _ (fun _ => True) (fun _ => False) rfl rfl ?aO ?aR (fun _ _ h => h) (fun _ h => h.elim) ?aF ?aB ?aS ?aL ?_; (case aR => repeat (first | exact (Kd.C_below HR326_1.out HB.out) | (with_reducible refine Kd.C_alloc ?_ _) | (with_reducible refine Kd.C_drewN ?_ _) | (with_reducible refine Kd.C_drew ?_))); (case aB => exact (bl_ HB.out)); (case aF => exact (fun _ _ => trivial)); (case aO => exact (rR_ HO325.out)); (case aS => exact (below_size (bl_ HB.out))); (case aL => have := LMc5.out; omega); intro v328 w21 ho hb hg hat; rw [← Ny327.out] at ho; refine cut2_ (hb) (ho) ?_; clear HB HO325; intro HB HO329; clear ho hb hg hat; have p330 : 0 ≤ (x4_1 : Int) := dt_; have q330 : x4_1 < (l0.length : Int) := dt_; obtain ⟨ad330, A330_1, c330_1, A330_3, c330_3, e330, hx330_0, hx330_1, hx330_2, hx330_3, hx330_4, hl330_1, hi330_1, hl330_3, hi330_3⟩ := at_T41 HR0.out x4_1 p330 q330; (try rw [← Nbq6.out] at hx330_2); obtain rfl : ad322 = ad330 := (by injection e330); replace hx330_0 := pw_cell_below HB.out hx330_0; replace hx330_1 := pw_cell_below HB.out hx330_1; replace hx330_2 := pw_cell_below HB.out hx330_2; replace hx330_3 := pw_cell_below HB.out hx330_3; replace hx330_4 := pw_cell_below HB.out hx330_4; have HR330_1 := Aside0.mk hi330_1; have HC330_1 := Aside0.mk hl330_1; clear hi330_1 hl330_1; have HR330_3 := Aside0.mk hi330_3; have HC330_3 := Aside0.mk hl330_3; clear hi330_3 hl330_3; replace p330 := eq_true p330; replace q330 := eq_true q330) | ((with_reducible refine gate_builtin (b := .append) (xs := #[.tmp 33, .tmp 35]) rfl ?_); at_builtin; refine Kd.R_append k46 (w0 := w) w.heap.size rfl (.tmp 33) (.tmp 35) 31 46 (.agg #[(.int .i64 0), (.string ⟨#[]⟩), (.int .i64 0), (.int .i64 0)]) 40 rfl Tryd.underlying31 info46 rfl (by decide) (by omega) v328 y327 (⟨4, (⟨#[59]⟩ : ByteArray), 0, 0⟩ : S46) [.int .i64 4, .string (⟨#[59]⟩ : ByteArray), .int .i64 0, .int .i64 0] (fun _ => True) (fun _ => False) rfl rfl ?aP (fun _ hk => hk.elim) ?aF ?aO ?aB ?aS ?aL ?_; (case aP => exact k46_mkM _ _ _ (⟨4, (⟨#[59]⟩ : ByteArray), 0, 0⟩ : S46)); (case aB => exact (bl_ HB.out)); (case aF => exact (fun _ _ => trivial)); (case aO => exact (rR_ HO329.out)); (case aS => exact (below_size (bl_ HB.out))); (case aL => have := LMc19.out; omega); intro v345 w22 ho hb hg hat; rw [← Ny344.out] at ho; refine cut2_ (hb) (ho) ?_; clear HB HO329; intro HB HO346; clear ho hb hg hat))
         go_roundg k1
         case measure => have := HK1.out; omega
         case rel => exact ⟨(y344), (wrap64 (x4_1 + 1)), sr_, H', ⟨by have := HK1.out; omega⟩, ⟨by (with_reducible repeat (first | apply Kd.R_alloc | apply Kd.R_drewN | apply Kd.R_drew)); exact HO346.out⟩, ⟨bl_ HB.out⟩⟩
        ·
         rw [if_neg c19] at H
         exact absurd H (by simp)
      ·
       rw [if_neg c5] at H
       exact absurd H (by simp)
     ·
      rw [if_neg c4] at H
      exact absurd H (by simp)
    ·
     rw [if_neg c3] at H
     exact absurd H (by simp)
   ·
    rw [if_neg c2] at H
    have c2b0 := decide_eq_false c2
    clear c2
    obtain rfl := Option.some.inj H
    go_wp2
    go_ret
    exact ⟨_, er_, by (with_reducible repeat (first | apply Kd.R_alloc | apply Kd.R_drewN | apply Kd.R_drew)); exact HO_3.out, bl_ HB.out⟩
end Go.Proofs.YtkifdadhojbohaaDoor.Pr
namespace Go.Proofs.YtkifdadhojbohaaDoor.Pu
open Go.RowKit Go.Proofs.YtkifdadhojbohaaDoor Go.Proofs.YtkifdadhojbohaaDoor.Pr Go.Proofs.YtkifdadhojbohaaDoorW.PrintWords Go.Proofs.YtkifdadhojbohaaDoorW.PrintLast Go.Proofs.YtkifdadhojbohaaDoorW.PrintMore
/-! ### formed, Check -/
theorem word_ok (s : ByteArray) (hs : s.size ≤ 900000) : Ev (fun k => lexer_Valid.f k 1 s 0 0) (validB 1 (lst s) 0) := valid_f 1 s (by omega) 0 0
theorem formed_f : ∀ l, szL l ≤ 900000 → AllC (txt 900000) l → Ev (fun k => parser_formed.f k l) (formL l) := by
  have loop : ∀ l, szL l ≤ 900000 → AllC (txt 900000) l → ∀ (A : List S41) (i : Nat), A.drop i = l → A.length ≤ 900000 → i ≤ A.length → Ev (fun k => parser_formed.l0 k A (A.length : Int) (i : Int)) (formL l) := by
    refine indL ?_ ?_
    · intro _ _ A i hA hn hi
      have : A.length ≤ i := by
        have := congrArg List.length hA
        rw [List.length_drop] at this
        simp at this; omega
      refine Ev.succ ?_
      simp only [parser_formed.l0]
      exact Ev.ifn (by omega) (Ev.ret (by simp [formL]))
    · intro c l h1 h2 hs hP A i hA hn hi
      rw [szL] at hs
      cases hP with
      | cons _ _ hc hk hr =>
      obtain ⟨hw, ha⟩ := hc
      obtain ⟨a1, a2, a3⟩ := rd41_at hA
      have hc := len_le c.f3
      have inner : ∀ (d j : Nat) (ats : List S46), c.f1.drop j = ats → j ≤ c.f1.length → c.f1.length - j = d →
          Ev (fun k => parser_formed.l1 k A (A.length : Int) (i : Int) c.f1 (c.f1.length : Int) (j : Int) c.f0 c.f1 c.f2 c.f3 c.f4) (ats.all okA && formL c.f3 && formL l) := by
        intro d
        induction d with
        | zero =>
          intro j ats hj hjl hd
          have e : ats = [] := by rw [← hj]; exact List.drop_eq_nil_of_le (by omega)
          subst e
          refine Ev.succ ?_
          simp only [parser_formed.l1]
          refine Ev.ifn (by omega) (Ev.bind (a := formL c.f3) ?_ ?_)
          · refine Ev.succ ?_
            simp only [parser_formed.f]
            exact h1 (by omega) hk c.f3 0 rfl (by omega) (by omega)
          · cases hf : formL c.f3 with
            | false => exact Ev.ifn (by simp) (Ev.ret (by simp))
            | true =>
              refine Ev.ifp rfl ?_
              rw [wrap_nat i (by omega)]
              simpa using h2 (by omega) hr A (i + 1) a3 hn (by omega)
        | succ d ih =>
          intro j ats hj hjl hd
          cases ats with
          | nil =>
            have := congrArg List.length hj
            rw [List.length_drop] at this
            simp at this; omega
          | cons a ats =>
            obtain ⟨b1, b2, b3⟩ := rd_at hj
            have hm : a ∈ c.f1 := List.mem_of_mem_drop (by rw [hj]; simp)
            refine Ev.succ ?_
            simp only [parser_formed.l1, b2, atom_f]
            rw [wrap_nat j (by omega)]
            refine Ev.ifp (by omega) (Ev.ifp natO (Ev.ifp (by omega) (Ev.val rfl ?_)))
            cases hA' : isA a with
            | false => exact Ev.ifn (by simp) (Ev.ret (by simp [okA, hA']))
            | true =>
              refine Ev.ifp rfl (Ev.bind (valid_f a.f0 a.f1 (by have := ha a hm; omega) a.f2 a.f3) ?_)
              cases hv : validB a.f0 (lst a.f1) a.f2 with
              | false => exact Ev.ifn (by simp) (Ev.ret (by simp [okA, hv]))
              | true =>
                refine Ev.ifp rfl ?_
                have := ih (j + 1) ats b3 (by omega) (by omega)
                simpa [okA, hA', hv] using this
      refine Ev.succ ?_
      simp only [parser_formed.l0, a2]
      refine Ev.ifp (by omega) (Ev.ifp natO (Ev.ifp (by omega) (Ev.bind (word_ok c.f0 hw) ?_)))
      rw [formL]
      cases hv : validB 1 (lst c.f0) 0 with
      | false => exact Ev.ifn (by simp) (Ev.ret (by simp))
      | true =>
        refine Ev.ifp rfl ?_
        have g := inner c.f1.length 0 c.f1 rfl (by omega) (by omega)
        by_cases hb : c.f2 = true
        · refine Ev.ifp hb ?_
          simpa [hb] using g
        · refine Ev.ifn hb ?_
          by_cases hz : ((c.f3).length : Int) > 0
          · refine Ev.ifp hz (Ev.ret ?_)
            have : c.f3 ≠ [] := by intro e; rw [e] at hz; simp at hz
            simp [hb, this]
          · refine Ev.ifn hz ?_
            have : c.f3 = [] := by
              cases h : c.f3 with
              | nil => rfl
              | cons _ _ => rw [h] at hz; simp at hz
            simpa [this] using g
  intro l hl hP
  have := len_le l
  refine Ev.succ ?_
  simp only [parser_formed.f]
  exact loop l hl hP l 0 rfl (by omega) (by omega)
theorem Check_f (l : List S41) (hl : szL l ≤ 900000) (hP : AllC (txt 900000) l) : Ev (fun k => parser_Check.f k l) (chkL l) := by
  unfold parser_Check.f chkL
  refine Ev.bind (formed_f l hl hP) ?_
  cases hf : formL l with
  | false => exact Ev.ifn (by simp) (Ev.ret (by simp))
  | true =>
    refine Ev.ifp rfl (Ev.bind (Depth_f l hl) ?_)
    by_cases h8 : 8 < depL l
    · exact Ev.ifp (by omega) (Ev.ret (by simp [h8]))
    · exact Ev.ifn (by omega) (Ev.ret (by simp [h8]))
/-! ### tokens -/
theorem toks_f : ∀ l, szL l ≤ 300000 → Ev (fun k => salchowlaw10_tokens.f k l) (toksL l) := by
  have loop : ∀ l, szL l ≤ 300000 → ∀ (A : List S41) (i : Nat) (acc : List S46), A.drop i = l → A.length ≤ 300000 → acc.length + 3 * szL l ≤ 2000000 → i ≤ A.length → Ev (fun k => salchowlaw10_tokens.l0 k A acc (i : Int)) (acc ++ toksL l) := by
    refine indL ?_ ?_
    · intro _ A i acc hA hn hm hi
      have : A.length ≤ i := by
        have := congrArg List.length hA
        rw [List.length_drop] at this
        simp at this; omega
      refine Ev.succ ?_
      simp only [salchowlaw10_tokens.l0]
      exact Ev.ifn (by omega) (Ev.ret (by simp [toksL]))
    · intro c l h1 h2 hs A i acc hA hn hm hi
      rw [szL] at hs hm
      obtain ⟨a1, a2, a3⟩ := rd41_at hA
      have hc := len_le c.f3
      have ht := toks_le c.f3
      refine Ev.succ ?_
      simp only [salchowlaw10_tokens.l0, a2]
      rw [wrap_nat i (by omega)]
      refine Ev.ifp (by omega) (Ev.ifp natO (Ev.ifp (by omega) (Ev.val rfl (Ev.ifp (by simp; omega) (Ev.val rfl ?_)))))
      by_cases hb : c.f2 = true
      · refine Ev.ifp hb (Ev.ifp (by simp; omega) (Ev.val rfl (Ev.bind (a := toksL c.f3) ?_ ?_)))
        · refine Ev.succ ?_
          simp only [salchowlaw10_tokens.f]
          simpa using h1 (by omega) c.f3 0 [] rfl (by omega) (by simp; omega) (by omega)
        · refine Ev.ifp (by simp; omega) (Ev.val rfl (Ev.ifp (by simp; omega) ?_))
          have := h2 (by omega) A (i + 1) (acc ++ [⟨1, c.f0, 0, 0⟩] ++ c.f1 ++ [sgT 123] ++ toksL c.f3 ++ [sgT 125]) a3 hn (by simp; omega) (by omega)
          have e : acc ++ toksL (c :: l) = acc ++ [⟨1, c.f0, 0, 0⟩] ++ c.f1 ++ [sgT 123] ++ toksL c.f3 ++ [sgT 125] ++ toksL l := by
            rw [toksL, if_pos hb]; simp
          rw [e]
          exact this
      · refine Ev.ifn hb (Ev.ifp (by simp; omega) ?_)
        have := h2 (by omega) A (i + 1) (acc ++ [⟨1, c.f0, 0, 0⟩] ++ c.f1 ++ [sgT 59]) a3 hn (by simp; omega) (by omega)
        have e : acc ++ toksL (c :: l) = acc ++ [⟨1, c.f0, 0, 0⟩] ++ c.f1 ++ [sgT 59] ++ toksL l := by
          rw [toksL, if_neg hb]; simp
        rw [e]
        exact this
  intro l hl
  have := len_le l
  refine Ev.succ ?_
  simp only [salchowlaw10_tokens.f]
  simpa using loop l hl l 0 [] rfl (by omega) (by simp; omega) (by omega)
end Go.Proofs.YtkifdadhojbohaaDoor.Pu
