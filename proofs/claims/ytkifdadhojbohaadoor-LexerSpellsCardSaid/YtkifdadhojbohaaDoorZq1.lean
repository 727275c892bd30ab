/- Joined out of the texts of this proof that bear the names PuM PrF67 PrF38 PrF37 PrF9 PuN PuO PuP RowLexerSpells: what each shows stands over it there. -/
import Derived.Test.YtkifdadhojbohaaDoorZf2
import Derived.Test.YtkifdadhojbohaaDoorZb1
import Derived.Test.YtkifdadhojbohaaDoorZa1
import Derived.Test.YtkifdadhojbohaaDoorZf1
import Derived.Test.YtkifdadhojbohaaDoorZc2
import Derived.Test.YtkifdadhojbohaaDoorZr1
import Derived.Test.YtkifdadhojbohaaDoorCards
import Derived.Test.YtkifdadhojbohaaDoorTie
import Derived.WalkKit
import Derived.OpenShut
import Derived.ShutString
import Derived.ChangeOld
import Derived.SizedLaws
import Derived.SevenTiedAt
import Derived.Handed
import Derived.LaidLaws
import Derived.Lib.SmallJoins
import Derived.Carry
set_option linter.unusedVariables false
set_option linter.unusedSimpArgs false
namespace Go.Proofs.YtkifdadhojbohaaDoor.Pu
open Go.RowKit Go.Proofs.YtkifdadhojbohaaDoor Go.Proofs.YtkifdadhojbohaaDoor.Pr Go.Proofs.YtkifdadhojbohaaDoorW.PrintWords Go.Proofs.YtkifdadhojbohaaDoorW.PrintLast
theorem dig_nat {d : Nat} (h : d < 10) : (UInt8.ofNat (48 + d)).toNat = 48 + d := by
  rw [UInt8.toNat_ofNat']; omega
theorem val_append (a b : List UInt8) : digitsVal (a ++ b) = b.foldl (fun n c => n * 10 + (c.toNat - 48)) (digitsVal a) := by
  simp [digitsVal, List.foldl_append]
/-- The numeral of u: digits, not empty, no nought ahead, and its value. -/
theorem dec_spec (u : Nat) : (∀ c ∈ Lib.decDigits u, 48 ≤ c.toNat ∧ c.toNat ≤ 57) ∧ digitsVal (Lib.decDigits u) = u ∧ Lib.decDigits u ≠ [] ∧ (10 ≤ u → (Lib.decDigits u).head? ≠ some 48) ∧ (1 ≤ u → (Lib.decDigits u).head? ≠ some 48) := by
  induction u using Nat.strongRecOn with
  | _ u ih =>
    by_cases h : u < 10
    · rw [Lib.decDigits_one h]
      have hd := dig_nat h
      refine ⟨?_, ?_, by simp, by omega, ?_⟩
      · intro c hc
        rw [List.mem_singleton] at hc
        rw [hc, hd]; omega
      · simp only [digitsVal, List.foldl_cons, List.foldl_nil]
        rw [hd]; omega
      · intro h1 he
        simp only [List.head?_cons, Option.some.injEq] at he
        have := congrArg UInt8.toNat he
        rw [hd] at this
        have h2 : (48 : UInt8).toNat = 48 := rfl
        omega
    · obtain ⟨a, b, c, _, e⟩ := ih (u / 10) (by omega)
      have hd : (UInt8.ofNat (48 + u % 10)).toNat = 48 + u % 10 := dig_nat (by omega)
      have hh : (Lib.decDigits u).head? = (Lib.decDigits (u / 10)).head? := by
        rw [Lib.decDigits, dif_neg h]
        cases hx : Lib.decDigits (u / 10) with
        | nil => exact absurd hx c
        | cons y ys => rfl
      refine ⟨?_, ?_, ?_, ?_, ?_⟩
      · intro x hx
        rw [Lib.decDigits, dif_neg h] at hx
        rcases List.mem_append.1 hx with hx | hx
        · exact a x hx
        · rw [List.mem_singleton] at hx
          rw [hx, hd]; omega
      · rw [Lib.decDigits, dif_neg h, val_append, b]
        simp only [List.foldl_cons, List.foldl_nil]
        rw [hd]; omega
      · rw [Lib.decDigits, dif_neg h]; simp
      · intro _; rw [hh]; exact e (by omega)
      · intro _; rw [hh]; exact e (by omega)
/-- Three digits. -/
def three (m : Nat) : List UInt8 := [UInt8.ofNat (48 + m / 100), UInt8.ofNat (48 + m / 10 % 10), UInt8.ofNat (48 + m % 10)]
theorem dec_thousand (m : Nat) (h : m < 1000) (q : Nat) (hq : 1 ≤ q) : Lib.decDigits (q * 1000 + m) = Lib.decDigits q ++ three m := by
  rw [Lib.decDigits, dif_neg (by omega), Lib.decDigits, dif_neg (by omega), Lib.decDigits, dif_neg (by omega)]
  rw [show (q * 1000 + m) / 10 / 10 / 10 = q by omega, show (q * 1000 + m) / 10 / 10 % 10 = m / 100 by omega, show (q * 1000 + m) / 10 % 10 = m / 10 % 10 by omega, show (q * 1000 + m) % 10 = m % 10 by omega]
  simp [three]
/-- Without the noughts at the end. -/
def cutZ (l : List UInt8) : List UInt8 := (l.reverse.dropWhile (· == 48)).reverse
/-- The numeral of n thousandths. -/
def numS (n : Nat) : List UInt8 := Lib.decDigits (n / 1000) ++ (if cutZ (three (n % 1000)) = [] then [] else 46 :: cutZ (three (n % 1000)))
theorem cut_fin : ∀ m : Fin 1000, (cutZ (three m.val)).all isDig = true ∧ (cutZ (three m.val)).length ≤ 3 ∧ digitsVal ((cutZ (three m.val) ++ [48, 48, 48]).take 3) = m.val ∧ ((cutZ (three m.val) ++ [48, 48, 48]).take 3).length = 3 ∧ (cutZ (three m.val) = [] → m.val = 0) := by decide +kernel
theorem dig_of {c : UInt8} (h : 48 ≤ c.toNat ∧ c.toNat ≤ 57) : isDig c = true := by
  unfold isDig
  rw [beq_iff_eq]
  exact (kind3 c.toNat).2 h
theorem val_three (a b : List UInt8) (hb : b.length = 3) : digitsVal (a ++ b) = digitsVal a * 1000 + digitsVal b := by
  match b, hb with
  | [x, y, z], _ =>
    rw [val_append]
    simp only [digitsVal, List.foldl_cons, List.foldl_nil]
    omega
theorem numL_numS (n : Nat) (hn : n ≤ 1000000000) : numL (numS n) = ((n : Int), 0) := by
  obtain ⟨a, b, c, _, e⟩ := dec_spec (n / 1000)
  obtain ⟨f1, f2, f3, f5, f4⟩ := cut_fin ⟨n % 1000, Nat.mod_lt _ (by decide)⟩
  dsimp only at f1 f2 f3 f4 f5
  have hno : ∀ x ∈ Lib.decDigits (n / 1000), ¬ (x == (46 : UInt8)) = true := by
    intro x hx he
    rw [beq_iff_eq] at he
    have := a x hx
    rw [he] at this
    exact absurd this.1 (by decide)
  have hlen : (Lib.decDigits (n / 1000)).length ≤ 10 := by
    rw [Lib.decDigits_length]
    rcases Nat.lt_or_ge (Lib.nDigits (n / 1000)) 11 with h | h
    · omega
    · exfalso
      have hp : ∀ u : Nat, u ≤ 1000000 → Lib.nDigits u ≤ 7 := by
        intro u hu
        by_cases h0 : u < 10
        · rw [Lib.nDigits_small h0]; omega
        · have := Lib.nDigits_unique
          rcases (by omega : (10 ≤ u ∧ u < 100) ∨ (100 ≤ u ∧ u < 1000) ∨ (1000 ≤ u ∧ u < 10000) ∨ (10000 ≤ u ∧ u < 100000) ∨ (100000 ≤ u ∧ u < 1000000) ∨ (1000000 ≤ u ∧ u < 10000000)) with h | h | h | h | h | h
          · rw [this 1 u (by omega) (by omega)]; omega
          · rw [this 2 u (by omega) (by omega)]; omega
          · rw [this 3 u (by omega) (by omega)]; omega
          · rw [this 4 u (by omega) (by omega)]; omega
          · rw [this 5 u (by omega) (by omega)]; omega
          · rw [this 6 u (by omega) (by omega)]; omega
      have := hp (n / 1000) (by omega)
      omega
  have hall : (Lib.decDigits (n / 1000)).all isDig = true := List.all_eq_true.2 (fun x hx => dig_of (a x hx))
  have hhead : ¬ (1 < (Lib.decDigits (n / 1000)).length ∧ (Lib.decDigits (n / 1000)).head? = some 48) := by
    rintro ⟨h1, h2⟩
    by_cases h0 : n / 1000 < 10
    · rw [Lib.decDigits_one h0] at h1; simp at h1
    · exact e (by omega) h2
  have hval : digitsVal (Lib.decDigits (n / 1000) ++ (cutZ (three (n % 1000)) ++ [48, 48, 48]).take 3) = n := by
    rw [val_three _ _ f5, b, f3]; omega
  have key : ∀ t : List UInt8, ∀ i, t.findIdx (· == 46) = i → t.take i = Lib.decDigits (n / 1000) → t.drop (i + 1) = cutZ (three (n % 1000)) → ¬ (i < t.length ∧ (cutZ (three (n % 1000)) = [] ∨ 3 < (cutZ (three (n % 1000))).length)) → numL t = ((n : Int), 0) := by
    intro t i hi ht hp hc
    unfold numL
    simp only [hi, ht, hp]
    rw [if_neg (by rintro (h | h | h); exact c h; exact hhead h; exact hc h), if_neg (by rw [List.all_append, hall, f1]; decide), if_neg (by omega), hval, if_neg (by omega)]
  have hidx : ∀ r : List UInt8, (Lib.decDigits (n / 1000) ++ 46 :: r).findIdx (· == 46) = (Lib.decDigits (n / 1000)).length := by
    intro r
    rw [List.findIdx_append, if_neg]
    · rw [List.findIdx_cons]; simp
    · intro h
      rw [List.findIdx_lt_length] at h
      obtain ⟨x, hx, hy⟩ := h
      exact hno x hx hy
  unfold numS
  by_cases hz : cutZ (three (n % 1000)) = []
  · rw [if_pos hz, List.append_nil]
    refine key _ (Lib.decDigits (n / 1000)).length (List.findIdx_eq_length.2 fun x hx => by simpa using hno x hx) (List.take_length ..) ?_ (by omega)
    rw [hz, List.drop_eq_nil_of_le (by omega)]
  · rw [if_neg hz]
    refine key _ _ (hidx _) List.take_left ?_ ?_
    · rw [← List.drop_drop, List.drop_left]; rfl
    · rintro ⟨_, h | h⟩
      · exact hz h
      · omega
end Go.Proofs.YtkifdadhojbohaaDoor.Pu
namespace Go.Proofs.YtkifdadhojbohaaDoor.Pr
open Go.Proofs.YtkifdadhojbohaaDoor
open Go.RowKit Go.Proofs.YtkifdadhojbohaaDoorW.PrintWords Go.Proofs.YtkifdadhojbohaaDoorW.PrintLast Go.Proofs.YtkifdadhojbohaaDoorW.PrintMore
attribute [local go_sem] max2_int min2_int max_two min_two max_three min_three max_four min_four   -- for this text's walks alone
set_option linter.unusedVariables false
set_option linter.unusedSimpArgs false
/-! ### salchowref09_spell: function 67 -/
def salchowref09_spell.l0 : Nat → ByteArray → ByteArray → Option (ByteArray)
  | 0, _, _ => none
  | k + 1, x3, x4 => if (x4.size : Int) > 0 then (if 0 ≤ (wrap64 ((x4.size : Int) - 1)) then (if (wrap64 ((x4.size : Int) - 1)) < (x4.size : Int) then (if (bt x4 (wrap64 ((x4.size : Int) - 1))) = 48 then (if (wrap64 ((x4.size : Int) - 1)) ≤ (x4.size : Int) then (salchowref09_spell.l0 k x3 (x4.extract 0 ((wrap64 ((x4.size : Int) - 1)) : Int).toNat)) else (none)) else (if x4.toList = ([] : List UInt8) then (some x3) else (if 1 + x4.size ≤ 9223372036854775807 then (if x3.size + ((⟨#[46]⟩ : ByteArray) ++ x4).size ≤ 9223372036854775807 then (some (x3 ++ ((⟨#[46]⟩ : ByteArray) ++ x4))) else (none)) else (none)))) else (none)) else (none)) else (if x4.toList = ([] : List UInt8) then (some x3) else (if 1 + x4.size ≤ 9223372036854775807 then (if x3.size + ((⟨#[46]⟩ : ByteArray) ++ x4).size ≤ 9223372036854775807 then (some (x3 ++ ((⟨#[46]⟩ : ByteArray) ++ x4))) else (none)) else (none)))
def salchowref09_spell.f (k : Nat) (a0 : Int) : Option (ByteArray) := (strconv_FormatInt.f (wrap64 (Int.tdiv a0 1000)) 10).bind fun t411 => ((strconv_FormatInt.f (wrap64 (1000 + (Int.tmod a0 1000))) 10).bind fun t412 => (if 1 ≤ (t412.size : Int) then (salchowref09_spell.l0 k t411 (t412.extract 1 t412.size)) else (none)))
theorem salchowref09_spell.mono_l : ∀ k, (∀ y0 y1, LeO (salchowref09_spell.l0 k y0 y1) (salchowref09_spell.l0 (k + 1) y0 y1))
  | 0 => fun _ _ r h => by simp [salchowref09_spell.l0] at h
  | k + 1 => by
    have ih0 := salchowref09_spell.mono_l k
    · intro y0 y1
      unfold salchowref09_spell.l0
      repeat' first
      | (with_reducible exact ih0 _ _)
      | (with_reducible exact LeO.refl _)
      | (with_reducible exact LeO.none _)
      | (with_reducible refine LeO.ite ?_ ?_)
      | (with_reducible refine LeO.bind ?_ (fun _ => ?_))
      | exact ih0 _ _
      | exact LeO.none _
      | refine LeO.ite ?_ ?_
      | refine LeO.bind ?_ (fun _ => ?_)
theorem salchowref09_spell.mono : ∀ a0 k, LeO (salchowref09_spell.f k a0) (salchowref09_spell.f (k + 1) a0) := by
  intro a0 k
  have ih0 := salchowref09_spell.mono_l k
  unfold salchowref09_spell.f
  repeat' first
      | (with_reducible exact ih0 _ _)
      | (with_reducible exact LeO.refl _)
      | (with_reducible exact LeO.none _)
      | (with_reducible refine LeO.ite ?_ ?_)
      | (with_reducible refine LeO.bind ?_ (fun _ => ?_))
      | exact ih0 _ _
      | exact LeO.none _
      | refine LeO.ite ?_ ?_
      | refine LeO.bind ?_ (fun _ => ?_)
set_option maxHeartbeats 8000000 in
set_option maxRecDepth 100000 in
theorem salchowref09_spell.calls (k : Nat) (a0 : Int) (r : ByteArray) (w : World) (hG : Gl w) (h : salchowref09_spell.f k a0 = some r) :
    Calls Tryd.prog 67 #[.int .i64 a0] w fun e w' => e = .returned (.string r) ∧ Below w.heap.size w w' := by
  have HB := Aside0.mk (Below.refl w.heap.size w)
  have H : ((strconv_FormatInt.f (wrap64 (Int.tdiv a0 1000)) 10).bind fun t411 => ((strconv_FormatInt.f (wrap64 (1000 + (Int.tmod a0 1000))) 10).bind fun t412 => (if 1 ≤ (t412.size : Int) then (salchowref09_spell.l0 k t411 (t412.extract 1 t412.size)) else (none)))) = some r := h
  clear h
  replace H := Option.bind_eq_some_iff.mp H
  obtain ⟨t411, A20, H⟩ := H
  replace H : ((strconv_FormatInt.f (wrap64 (1000 + (Int.tmod a0 1000))) 10).bind fun t412 => (if 1 ≤ (t412.size : Int) then (salchowref09_spell.l0 k t411 (t412.extract 1 t412.size)) else (none))) = some r := H
  have A2 := Aside0.mk A20
  clear A20
  replace H := Option.bind_eq_some_iff.mp H
  obtain ⟨t412, A30, H⟩ := H
  replace H : (if 1 ≤ (t412.size : Int) then (salchowref09_spell.l0 k t411 (t412.extract 1 t412.size)) else (none)) = some r := H
  have A3 := Aside0.mk A30
  clear A30
  by_cases c4 : 1 ≤ (t412.size : Int)
  · rw [if_pos c4] at H
    have c4b0 := eq_true c4
    have c4b1 : decide (1 ≤ (t412.size : Int)) = true := decide_eq_true c4
    clear c4
    have H' := Aside0.mk H
    clear H
    go_enter Tryd.func67, Tryd.ntmps67
    go_wp2_with (first | ((with_reducible refine gate_callee (f := 61) rfl ?_); refine goesL_ (some 7) rfl rfl Tryd.func61 (by kernel_rfl) rfl #[.int .i64 (wrap64 (Int.tdiv a0 1000)), .int .i64 10] rfl (by (try simp only [List.map_toArray, List.map_cons, List.map_nil]); first | done | rfl | (simp only [List.length_drop, List.length_take]; rfl)) ?_; (with_reducible refine (strconv_FormatInt.calls (wrap64 (Int.tdiv a0 1000)) 10 t411 _ ?side1 A2.out).mono ?_); (case side1 => exact Gl.below hG (bl_ HB.out)); rintro e w5 ⟨rfl, hb⟩; refine ⟨_, rfl, ?_⟩; have n0_ := Aside0.mk (below_step (bl_ HB.out) hb); clear HB; have HB := n0_; clear n0_; (try clear hb); (try clear hb2); (try clear hk); (try clear hi)) | ((with_reducible refine gate_callee (f := 61) rfl ?_); refine goesL_ (some 11) rfl rfl Tryd.func61 (by kernel_rfl) rfl #[.int .i64 (wrap64 (1000 + (Int.tmod a0 1000))), .int .i64 10] rfl (by (try simp only [List.map_toArray, List.map_cons, List.map_nil]); first | done | rfl | (simp only [List.length_drop, List.length_take]; rfl)) ?_; (with_reducible refine (strconv_FormatInt.calls (wrap64 (1000 + (Int.tmod a0 1000))) 10 t412 _ ?side1 A3.out).mono ?_); (case side1 => exact Gl.below hG (bl_ HB.out)); rintro e w6 ⟨rfl, hb⟩; refine ⟨_, rfl, ?_⟩; have n0_ := Aside0.mk (below_step (bl_ HB.out) hb); clear HB; have HB := n0_; clear n0_; (try clear hb); (try clear hb2); (try clear hk); (try clear hi)))
    go_loopg [4] k (fun kq v4 w' => ∃ (x4_1 : ByteArray), v4 = .string x4_1 ∧ Aside0 (salchowref09_spell.l0 kq t411 x4_1 = some r) ∧ Aside0 (kq ≤ k) ∧ Aside0 (Below w.heap.size w w'))
    case atStart => exact ⟨(t412.extract 1 t412.size), (by first | rfl | (simp; done) | (simp [*]; done) | (simp <;> rfl)), H', ⟨Nat.le_refl _⟩, ⟨bl_ HB.out⟩⟩
    case round =>
      clear H'
      try clear p2
      try clear c4
      try clear c4b0
      try clear c4b1
      try clear c6
      try clear p6
      obtain ⟨x4_1, rfl, HA, HK1, HB⟩ := hrel
      cases gk with
      | zero => exact absurd HA.out (by simp [salchowref09_spell.l0])
      | succ k1 =>
        have H := HA.out
        clear HA
        simp only [salchowref09_spell.l0] at H
        by_cases c7 : (x4_1.size : Int) > 0
        · rw [if_pos c7] at H
          have c7b0 : decide (0 < (x4_1.size : Int)) = true := decide_eq_true c7
          have c7b1 : decide (0 < x4_1.size) = true := decide_eq_true (by omega)
          clear c7
          obtain ⟨ji8, hji8⟩ : ∃ j_ : Int, (wrap64 ((x4_1.size : Int) - 1)) = j_ := ⟨_, rfl⟩
          replace H : (if 0 ≤ (ji8) then (if (ji8) < (x4_1.size : Int) then (if (bt x4_1 (ji8)) = 48 then (if (ji8) ≤ (x4_1.size : Int) then (salchowref09_spell.l0 k1 t411 (x4_1.extract 0 ((ji8) : Int).toNat)) else (none)) else (if x4_1.toList = ([] : List UInt8) then (some t411) else (if 1 + x4_1.size ≤ 9223372036854775807 then (if t411.size + ((⟨#[46]⟩ : ByteArray) ++ x4_1).size ≤ 9223372036854775807 then (some (t411 ++ ((⟨#[46]⟩ : ByteArray) ++ x4_1))) else (none)) else (none)))) else (none)) else (none)) = some r := by first | (rw [hji8] at H; exact H) | (simp only [hji8] at H ⊢; exact H)
          have hji8w : (IntKind.i64.wrap ((x4_1.size : Int) - 1)) = ji8 := (i64_w _).trans hji8
          by_cases c9 : 0 ≤ (ji8)
          · rw [if_pos c9] at H
            have c9b0 : decide (0 ≤ (ji8)) = true := decide_eq_true c9
            clear c9
            by_cases c10 : (ji8) < (x4_1.size : Int)
            · rw [if_pos c10] at H
              have c10b0 : decide ((ji8) < (x4_1.size : Int)) = true := decide_eq_true c10
              clear c10
              by_cases c12 : (bt x4_1 (ji8)) = 48
              · rw [if_pos c12] at H
                have c12b0 : ((bt x4_1 (ji8)) == 48) = true := beq_iff_eq.mpr c12
                have c12b1 : ((bt x4_1 (ji8)) != 48) = false := bne_eq_false_iff_eq.mpr c12
                clear c12
                have c13b0 := eq_true (of_decide_eq_true (by first | (with_reducible assumption) | assumption) : 0 ≤ (ji8))
                by_cases c14 : (ji8) ≤ (x4_1.size : Int)
                · rw [if_pos c14] at H
                  have c14b0 := eq_true c14
                  have c14b1 : decide ((ji8) ≤ (x4_1.size : Int)) = true := decide_eq_true c14
                  clear c14
                  have H' := Aside0.mk H
                  clear H
                  have p11 : 0 ≤ ((ji8) : Int) := of_decide_eq_true (by first | (with_reducible assumption) | assumption)
                  have q11 : (ji8) < (x4_1.size : Int) := of_decide_eq_true (by first | (with_reducible assumption) | assumption)
                  have hx11 := bt_at x4_1 (ji8)
                  replace p11 := eq_true p11
                  replace q11 := eq_true q11
                  go_wp2
                  go_roundg k1
                  case measure => have := HK1.out; omega
                  case rel => exact ⟨(x4_1.extract 0 ((ji8) : Int).toNat), (by first | rfl | (simp; done) | (simp only [← hji8] <;> (first | rfl | simp)) | (simp [*]; done)), H', ⟨by have := HK1.out; omega⟩, ⟨bl_ HB.out⟩⟩
                · rw [if_neg c14] at H
                  exact absurd H (by simp)
              · rw [if_neg c12] at H
                have c12b0 : ((bt x4_1 (ji8)) == 48) = false := beq_eq_false_iff_ne.mpr c12
                have c12b1 : ((bt x4_1 (ji8)) != 48) = true := bne_iff_ne.mpr c12
                by_cases c15 : x4_1.toList = ([] : List UInt8)
                · rw [if_pos c15] at H
                  have c15b0 : (x4_1.toList == ([] : List UInt8)) = true := beq_iff_eq.mpr c15
                  have c15b1 : (x4_1.toList != ([] : List UInt8)) = false := bne_eq_false_iff_eq.mpr c15
                  clear c15
                  obtain rfl := Option.some.inj H
                  have p11 : 0 ≤ ((ji8) : Int) := of_decide_eq_true (by first | (with_reducible assumption) | assumption)
                  have q11 : (ji8) < (x4_1.size : Int) := of_decide_eq_true (by first | (with_reducible assumption) | assumption)
                  have hx11 := bt_at x4_1 (ji8)
                  replace p11 := eq_true p11
                  replace q11 := eq_true q11
                  go_wp2
                  go_ret
                  exact ⟨by first | rfl | (simp [errW_none, errW_some] <;> rfl) | (simp only [← hji8]; first | rfl | (simp [errW_none, errW_some] <;> rfl)) | (simp [*, errW_none, errW_some] <;> rfl), bl_ HB.out⟩
                · rw [if_neg c15] at H
                  have c15b0 : (x4_1.toList == ([] : List UInt8)) = false := beq_eq_false_iff_ne.mpr c15
                  have c15b1 : (x4_1.toList != ([] : List UInt8)) = true := bne_iff_ne.mpr c15
                  by_cases c16 : 1 + x4_1.size ≤ 9223372036854775807
                  · rw [if_pos c16] at H
                    have c16b0 := eq_true c16
                    have c16b1 : decide (1 + x4_1.size ≤ 9223372036854775807) = true := decide_eq_true c16
                    try have c16b2 : (9223372036854775807 < 1 + x4_1.size) = False := eq_false (Nat.not_lt.2 c16)
                    by_cases c17 : t411.size + ((⟨#[46]⟩ : ByteArray) ++ x4_1).size ≤ 9223372036854775807
                    · rw [if_pos c17] at H
                      have c17b0 := eq_true c17
                      have c17b1 : decide (t411.size + ((⟨#[46]⟩ : ByteArray) ++ x4_1).size ≤ 9223372036854775807) = true := decide_eq_true c17
                      (try (have c17b3 : (9223372036854775807 < t411.size + 1 + x4_1.size) = False := eq_false (Nat.not_lt.2 (by have h_ := c17; simp only [ByteArray.size_append] at h_; exact h_))))
                      (try (have c17b4 : (t411.size + 1 + x4_1.size ≤ 9223372036854775807) = True := eq_true (by have h_ := c17; simp only [ByteArray.size_append] at h_; exact h_)))
                      try have c17b2 : (9223372036854775807 < t411.size + ((⟨#[46]⟩ : ByteArray) ++ x4_1).size) = False := eq_false (Nat.not_lt.2 c17)
                      obtain rfl := Option.some.inj H
                      have p11 : 0 ≤ ((ji8) : Int) := of_decide_eq_true (by first | (with_reducible assumption) | assumption)
                      have q11 : (ji8) < (x4_1.size : Int) := of_decide_eq_true (by first | (with_reducible assumption) | assumption)
                      have hx11 := bt_at x4_1 (ji8)
                      replace p11 := eq_true p11
                      replace q11 := eq_true q11
                      go_wp2
                      go_ret
                      exact ⟨by first | rfl | (simp [errW_none, errW_some] <;> rfl) | (simp only [← hji8]; first | rfl | (simp [errW_none, errW_some] <;> rfl)) | (simp [*, errW_none, errW_some] <;> rfl), bl_ HB.out⟩
                    · rw [if_neg c17] at H
                      exact absurd H (by simp)
                  · rw [if_neg c16] at H
                    exact absurd H (by simp)
            · rw [if_neg c10] at H
              exact absurd H (by simp)
          · rw [if_neg c9] at H
            exact absurd H (by simp)
        · rw [if_neg c7] at H
          have c7b0 : decide (0 < (x4_1.size : Int)) = false := decide_eq_false c7
          have c7b1 : decide (0 < x4_1.size) = false := decide_eq_false (by omega)
          clear c7
          by_cases c18 : x4_1.toList = ([] : List UInt8)
          · rw [if_pos c18] at H
            have c18b0 : (x4_1.toList == ([] : List UInt8)) = true := beq_iff_eq.mpr c18
            have c18b1 : (x4_1.toList != ([] : List UInt8)) = false := bne_eq_false_iff_eq.mpr c18
            clear c18
            obtain rfl := Option.some.inj H
            go_wp2
            go_ret
            exact ⟨er_, bl_ HB.out⟩
          · rw [if_neg c18] at H
            have c18b0 : (x4_1.toList == ([] : List UInt8)) = false := beq_eq_false_iff_ne.mpr c18
            have c18b1 : (x4_1.toList != ([] : List UInt8)) = true := bne_iff_ne.mpr c18
            by_cases c19 : 1 + x4_1.size ≤ 9223372036854775807
            · rw [if_pos c19] at H
              have c19b0 := eq_true c19
              have c19b1 : decide (1 + x4_1.size ≤ 9223372036854775807) = true := decide_eq_true c19
              try have c19b2 : (9223372036854775807 < 1 + x4_1.size) = False := eq_false (Nat.not_lt.2 c19)
              by_cases c20 : t411.size + ((⟨#[46]⟩ : ByteArray) ++ x4_1).size ≤ 9223372036854775807
              · rw [if_pos c20] at H
                have c20b0 := eq_true c20
                have c20b1 : decide (t411.size + ((⟨#[46]⟩ : ByteArray) ++ x4_1).size ≤ 9223372036854775807) = true := decide_eq_true c20
                (try (have c20b3 : (9223372036854775807 < t411.size + 1 + x4_1.size) = False := eq_false (Nat.not_lt.2 (by have h_ := c20; simp only [ByteArray.size_append] at h_; exact h_))))
                (try (have c20b4 : (t411.size + 1 + x4_1.size ≤ 9223372036854775807) = True := eq_true (by have h_ := c20; simp only [ByteArray.size_append] at h_; exact h_)))
                try have c20b2 : (9223372036854775807 < t411.size + ((⟨#[46]⟩ : ByteArray) ++ x4_1).size) = False := eq_false (Nat.not_lt.2 c20)
                obtain rfl := Option.some.inj H
                go_wp2
                go_ret
                exact ⟨er_, bl_ HB.out⟩
              · rw [if_neg c20] at H
                exact absurd H (by simp)
            · rw [if_neg c19] at H
              exact absurd H (by simp)
  · rw [if_neg c4] at H
    exact absurd H (by simp)
end Go.Proofs.YtkifdadhojbohaaDoor.Pr
namespace Go.Proofs.YtkifdadhojbohaaDoor.Pr
open Go.Proofs.YtkifdadhojbohaaDoor
open Go.RowKit Go.Proofs.YtkifdadhojbohaaDoorW.PrintWords Go.Proofs.YtkifdadhojbohaaDoorW.PrintLast Go.Proofs.YtkifdadhojbohaaDoorW.PrintMore
attribute [local go_sem] max2_int min2_int max_two min_two max_three min_three max_four min_four   -- for this text's walks alone
set_option linter.unusedVariables false
set_option linter.unusedSimpArgs false
/-! ### salchowref09_Spell: function 38 -/
def salchowref09_Spell.f (k : Nat) (a0_0 : Int) (a0_1 : ByteArray) (a0_2 : Int) (a0_3 : Int) : Option (ByteArray) := if a0_0 = 2 then (if a0_2 ≥ 0 then (if a0_2 ≤ 1000000000 then ((salchowref09_spell.f k a0_2).bind fun t414 => (some t414)) else (some (⟨#[]⟩ : ByteArray))) else (some (⟨#[]⟩ : ByteArray))) else (if a0_0 = 3 then (if 1 + a0_1.size ≤ 9223372036854775807 then (if ((⟨#[34]⟩ : ByteArray) ++ a0_1).size + 1 ≤ 9223372036854775807 then (some (((⟨#[34]⟩ : ByteArray) ++ a0_1) ++ (⟨#[34]⟩ : ByteArray))) else (none)) else (none)) else (if a0_0 = 1 then (some a0_1) else (if a0_0 = 4 then (some a0_1) else (some (⟨#[]⟩ : ByteArray)))))
theorem salchowref09_Spell.mono : ∀ a0 a1 a2 a3 k, LeO (salchowref09_Spell.f k a0 a1 a2 a3) (salchowref09_Spell.f (k + 1) a0 a1 a2 a3) := by
  intro a0 a1 a2 a3 k
  unfold salchowref09_Spell.f
  repeat' first
      | (with_reducible exact salchowref09_spell.mono _ _)
      | (with_reducible exact LeO.refl _)
      | (with_reducible exact LeO.none _)
      | (with_reducible refine LeO.ite ?_ ?_)
      | (with_reducible refine LeO.bind ?_ (fun _ => ?_))
      | exact salchowref09_spell.mono _ _
      | exact LeO.none _
      | refine LeO.ite ?_ ?_
      | refine LeO.bind ?_ (fun _ => ?_)
set_option maxHeartbeats 8000000 in
set_option maxRecDepth 100000 in
theorem salchowref09_Spell.calls (k : Nat) (a0_0 : Int) (a0_1 : ByteArray) (a0_2 : Int) (a0_3 : Int) (r : ByteArray) (w : World) (hG : Gl w) (h : salchowref09_Spell.f k a0_0 a0_1 a0_2 a0_3 = some r) :
    Calls Tryd.prog 38 #[.agg #[.int .i64 a0_0, .string a0_1, .int .i64 a0_2, .int .i64 a0_3]] w fun e w' => e = .returned (.string r) ∧ Below w.heap.size w w' := by
  have hu46 := Tryd.underlying46
  have HB := Aside0.mk (Below.refl w.heap.size w)
  have H : (if a0_0 = 2 then (if a0_2 ≥ 0 then (if a0_2 ≤ 1000000000 then ((salchowref09_spell.f k a0_2).bind fun t414 => (some t414)) else (some (⟨#[]⟩ : ByteArray))) else (some (⟨#[]⟩ : ByteArray))) else (if a0_0 = 3 then (if 1 + a0_1.size ≤ 9223372036854775807 then (if ((⟨#[34]⟩ : ByteArray) ++ a0_1).size + 1 ≤ 9223372036854775807 then (some (((⟨#[34]⟩ : ByteArray) ++ a0_1) ++ (⟨#[34]⟩ : ByteArray))) else (none)) else (none)) else (if a0_0 = 1 then (some a0_1) else (if a0_0 = 4 then (some a0_1) else (some (⟨#[]⟩ : ByteArray)))))) = some r := h
  clear h
  by_cases c2 : a0_0 = 2
  · rw [if_pos c2] at H
    have c2b0 : (a0_0 == 2) = true := beq_iff_eq.mpr c2
    have c2b1 : (a0_0 != 2) = false := bne_eq_false_iff_eq.mpr c2
    clear c2
    by_cases c3 : a0_2 ≥ 0
    · rw [if_pos c3] at H
      have c3b0 : decide (0 ≤ a0_2) = true := decide_eq_true c3
      clear c3
      by_cases c4 : a0_2 ≤ 1000000000
      · rw [if_pos c4] at H
        have c4b0 : decide (a0_2 ≤ 1000000000) = true := decide_eq_true c4
        clear c4
        replace H := Option.bind_eq_some_iff.mp H
        obtain ⟨t414, A50, H⟩ := H
        replace H : (some t414) = some r := H
        have A5 := Aside0.mk A50
        clear A50
        obtain rfl := Option.some.inj H
        go_enter Tryd.func38, Tryd.ntmps38
        go_wp2_with (first | ((with_reducible refine gate_dst (N := 1) rfl ?_); refine box_event ?hg (N := 1) ?hd (cs := #[.int .i64 a0_0, .string a0_1, .int .i64 a0_2, .int .i64 a0_3]) (t := 46) ?hr ?_; (case hd => rfl); (case hg => rfl); (case hr => first | (go_simp; done) | (go_simp; rfl)); intro gb413 hg w6 hbox hb; have n0_ := Aside0.mk (below_step (bl_ HB.out) hb); have n1_ := Aside0.mk (hbox); have n2_ := Aside0.mk ((by rw [hg]; exact (below_size (bl_ HB.out)) : w.heap.size ≤ gb413)); have n3_ := Aside0.mk ((by rw [hg]; exact (below_size (bl_ HB.out)) : w.heap.size ≤ gb413)); clear HB; have HB := n0_; have BK413 := n1_; have GW413 := n2_; have GE413 := n3_; clear n0_ n1_ n2_ n3_; clear hb hbox hg; have hcz7_0 : w6.cell? ⟨gb413, 0, none⟩ = some (.int .i64 a0_0) := (blk_cell BK413.out 0).trans rfl; have hcz7_1 : w6.cell? ⟨gb413, 1, none⟩ = some (.string a0_1) := (blk_cell BK413.out 1).trans rfl; have hcz7_2 : w6.cell? ⟨gb413, 2, none⟩ = some (.int .i64 a0_2) := (blk_cell BK413.out 2).trans rfl; have hcz7_3 : w6.cell? ⟨gb413, 3, none⟩ = some (.int .i64 a0_3) := (blk_cell BK413.out 3).trans rfl; have hfz7_0 := blk_frozen BK413.out 0; have hfz7_1 := blk_frozen BK413.out 1; have hfz7_2 := blk_frozen BK413.out 2; have hfz7_3 := blk_frozen BK413.out 3) | ((with_reducible refine gate_callee (f := 67) rfl ?_); refine goesL_ (some 17) rfl rfl Tryd.func67 (by kernel_rfl) rfl #[.int .i64 a0_2] rfl (by (try simp only [List.map_toArray, List.map_cons, List.map_nil]); first | done | rfl | (simp only [List.length_drop, List.length_take]; rfl)) ?_; (with_reducible refine (salchowref09_spell.calls k a0_2 t414 _ ?side1 A5.out).mono ?_); (case side1 => exact Gl.below hG (bl1_ HB.out GE413.out)); rintro e w8 ⟨rfl, hb⟩; refine ⟨_, rfl, ?_⟩; have n0_ := Aside0.mk (blk_below (g := gb413) (o := .cells #[.int .i64 a0_0, .string a0_1, .int .i64 a0_2, .int .i64 a0_3] 46 (0, 0)) (bk_ BK413.out) hb); have n1_ := Aside0.mk (below_step (bl1_ HB.out GE413.out) hb); clear BK413; clear HB; have BK413 := n0_; have HB := n1_; clear n0_ n1_; (try clear hb); (try clear hb2); (try clear hk); (try clear hi)))
        go_ret
        exact ⟨er_, bl1_ HB.out GE413.out⟩
      · rw [if_neg c4] at H
        have c4b0 : decide (a0_2 ≤ 1000000000) = false := decide_eq_false c4
        clear c4
        obtain rfl := Option.some.inj H
        go_enter Tryd.func38, Tryd.ntmps38
        go_wp2_with (first | ((with_reducible refine gate_dst (N := 1) rfl ?_); refine box_event ?hg (N := 1) ?hd (cs := #[.int .i64 a0_0, .string a0_1, .int .i64 a0_2, .int .i64 a0_3]) (t := 46) ?hr ?_; (case hd => rfl); (case hg => rfl); (case hr => first | (go_simp; done) | (go_simp; rfl)); intro gb413 hg w9 hbox hb; have n0_ := Aside0.mk (below_step (bl_ HB.out) hb); have n1_ := Aside0.mk (hbox); have n2_ := Aside0.mk ((by rw [hg]; exact (below_size (bl_ HB.out)) : w.heap.size ≤ gb413)); have n3_ := Aside0.mk ((by rw [hg]; exact (below_size (bl_ HB.out)) : w.heap.size ≤ gb413)); clear HB; have HB := n0_; have BK413 := n1_; have GW413 := n2_; have GE413 := n3_; clear n0_ n1_ n2_ n3_; clear hb hbox hg; have hcz10_0 : w9.cell? ⟨gb413, 0, none⟩ = some (.int .i64 a0_0) := (blk_cell BK413.out 0).trans rfl; have hcz10_1 : w9.cell? ⟨gb413, 1, none⟩ = some (.string a0_1) := (blk_cell BK413.out 1).trans rfl; have hcz10_2 : w9.cell? ⟨gb413, 2, none⟩ = some (.int .i64 a0_2) := (blk_cell BK413.out 2).trans rfl; have hcz10_3 : w9.cell? ⟨gb413, 3, none⟩ = some (.int .i64 a0_3) := (blk_cell BK413.out 3).trans rfl; have hfz10_0 := blk_frozen BK413.out 0; have hfz10_1 := blk_frozen BK413.out 1; have hfz10_2 := blk_frozen BK413.out 2; have hfz10_3 := blk_frozen BK413.out 3))
        go_ret
        exact ⟨er_, bl1_ HB.out GE413.out⟩
    · rw [if_neg c3] at H
      have c3b0 : decide (0 ≤ a0_2) = false := decide_eq_false c3
      clear c3
      obtain rfl := Option.some.inj H
      go_enter Tryd.func38, Tryd.ntmps38
      go_wp2_with (first | ((with_reducible refine gate_dst (N := 1) rfl ?_); refine box_event ?hg (N := 1) ?hd (cs := #[.int .i64 a0_0, .string a0_1, .int .i64 a0_2, .int .i64 a0_3]) (t := 46) ?hr ?_; (case hd => rfl); (case hg => rfl); (case hr => first | (go_simp; done) | (go_simp; rfl)); intro gb413 hg w11 hbox hb; have n0_ := Aside0.mk (below_step (bl_ HB.out) hb); have n1_ := Aside0.mk (hbox); have n2_ := Aside0.mk ((by rw [hg]; exact (below_size (bl_ HB.out)) : w.heap.size ≤ gb413)); have n3_ := Aside0.mk ((by rw [hg]; exact (below_size (bl_ HB.out)) : w.heap.size ≤ gb413)); clear HB; have HB := n0_; have BK413 := n1_; have GW413 := n2_; have GE413 := n3_; clear n0_ n1_ n2_ n3_; clear hb hbox hg; have hcz12_0 : w11.cell? ⟨gb413, 0, none⟩ = some (.int .i64 a0_0) := (blk_cell BK413.out 0).trans rfl; have hcz12_1 : w11.cell? ⟨gb413, 1, none⟩ = some (.string a0_1) := (blk_cell BK413.out 1).trans rfl; have hcz12_2 : w11.cell? ⟨gb413, 2, none⟩ = some (.int .i64 a0_2) := (blk_cell BK413.out 2).trans rfl; have hcz12_3 : w11.cell? ⟨gb413, 3, none⟩ = some (.int .i64 a0_3) := (blk_cell BK413.out 3).trans rfl; have hfz12_0 := blk_frozen BK413.out 0; have hfz12_1 := blk_frozen BK413.out 1; have hfz12_2 := blk_frozen BK413.out 2; have hfz12_3 := blk_frozen BK413.out 3))
      go_ret
      exact ⟨er_, bl1_ HB.out GE413.out⟩
  · rw [if_neg c2] at H
    have c2b0 : (a0_0 == 2) = false := beq_eq_false_iff_ne.mpr c2
    have c2b1 : (a0_0 != 2) = true := bne_iff_ne.mpr c2
    by_cases c13 : a0_0 = 3
    · rw [if_pos c13] at H
      have c13b0 : (a0_0 == 3) = true := beq_iff_eq.mpr c13
      have c13b1 : (a0_0 != 3) = false := bne_eq_false_iff_eq.mpr c13
      clear c13
      by_cases c14 : 1 + a0_1.size ≤ 9223372036854775807
      · rw [if_pos c14] at H
        have c14b0 := eq_true c14
        have c14b1 : decide (1 + a0_1.size ≤ 9223372036854775807) = true := decide_eq_true c14
        try have c14b2 : (9223372036854775807 < 1 + a0_1.size) = False := eq_false (Nat.not_lt.2 c14)
        by_cases c15 : ((⟨#[34]⟩ : ByteArray) ++ a0_1).size + 1 ≤ 9223372036854775807
        · rw [if_pos c15] at H
          have c15b0 := eq_true c15
          have c15b1 : decide (((⟨#[34]⟩ : ByteArray) ++ a0_1).size + 1 ≤ 9223372036854775807) = true := decide_eq_true c15
          (try (have c15b3 : (9223372036854775807 < 1 + a0_1.size + 1) = False := eq_false (Nat.not_lt.2 (by have h_ := c15; simp only [ByteArray.size_append] at h_; exact h_))))
          (try (have c15b4 : (1 + a0_1.size + 1 ≤ 9223372036854775807) = True := eq_true (by have h_ := c15; simp only [ByteArray.size_append] at h_; exact h_)))
          try have c15b2 : (9223372036854775807 < ((⟨#[34]⟩ : ByteArray) ++ a0_1).size + 1) = False := eq_false (Nat.not_lt.2 c15)
          obtain rfl := Option.some.inj H
          go_enter Tryd.func38, Tryd.ntmps38
          go_wp2_with (first | ((with_reducible refine gate_dst (N := 1) rfl ?_); refine box_event ?hg (N := 1) ?hd (cs := #[.int .i64 a0_0, .string a0_1, .int .i64 a0_2, .int .i64 a0_3]) (t := 46) ?hr ?_; (case hd => rfl); (case hg => rfl); (case hr => first | (go_simp; done) | (go_simp; rfl)); intro gb413 hg w16 hbox hb; have n0_ := Aside0.mk (below_step (bl_ HB.out) hb); have n1_ := Aside0.mk (hbox); have n2_ := Aside0.mk ((by rw [hg]; exact (below_size (bl_ HB.out)) : w.heap.size ≤ gb413)); have n3_ := Aside0.mk ((by rw [hg]; exact (below_size (bl_ HB.out)) : w.heap.size ≤ gb413)); clear HB; have HB := n0_; have BK413 := n1_; have GW413 := n2_; have GE413 := n3_; clear n0_ n1_ n2_ n3_; clear hb hbox hg; have hcz17_0 : w16.cell? ⟨gb413, 0, none⟩ = some (.int .i64 a0_0) := (blk_cell BK413.out 0).trans rfl; have hcz17_1 : w16.cell? ⟨gb413, 1, none⟩ = some (.string a0_1) := (blk_cell BK413.out 1).trans rfl; have hcz17_2 : w16.cell? ⟨gb413, 2, none⟩ = some (.int .i64 a0_2) := (blk_cell BK413.out 2).trans rfl; have hcz17_3 : w16.cell? ⟨gb413, 3, none⟩ = some (.int .i64 a0_3) := (blk_cell BK413.out 3).trans rfl; have hfz17_0 := blk_frozen BK413.out 0; have hfz17_1 := blk_frozen BK413.out 1; have hfz17_2 := blk_frozen BK413.out 2; have hfz17_3 := blk_frozen BK413.out 3))
          go_ret
          exact ⟨er_, bl1_ HB.out GE413.out⟩
        · rw [if_neg c15] at H
          exact absurd H (by simp)
      · rw [if_neg c14] at H
        exact absurd H (by simp)
    · rw [if_neg c13] at H
      have c13b0 : (a0_0 == 3) = false := beq_eq_false_iff_ne.mpr c13
      have c13b1 : (a0_0 != 3) = true := bne_iff_ne.mpr c13
      by_cases c18 : a0_0 = 1
      · rw [if_pos c18] at H
        have c18b0 : (a0_0 == 1) = true := beq_iff_eq.mpr c18
        have c18b1 : (a0_0 != 1) = false := bne_eq_false_iff_eq.mpr c18
        clear c18
        obtain rfl := Option.some.inj H
        go_enter Tryd.func38, Tryd.ntmps38
        go_wp2_with (first | ((with_reducible refine gate_dst (N := 1) rfl ?_); refine box_event ?hg (N := 1) ?hd (cs := #[.int .i64 a0_0, .string a0_1, .int .i64 a0_2, .int .i64 a0_3]) (t := 46) ?hr ?_; (case hd => rfl); (case hg => rfl); (case hr => first | (go_simp; done) | (go_simp; rfl)); intro gb413 hg w19 hbox hb; have n0_ := Aside0.mk (below_step (bl_ HB.out) hb); have n1_ := Aside0.mk (hbox); have n2_ := Aside0.mk ((by rw [hg]; exact (below_size (bl_ HB.out)) : w.heap.size ≤ gb413)); have n3_ := Aside0.mk ((by rw [hg]; exact (below_size (bl_ HB.out)) : w.heap.size ≤ gb413)); clear HB; have HB := n0_; have BK413 := n1_; have GW413 := n2_; have GE413 := n3_; clear n0_ n1_ n2_ n3_; clear hb hbox hg; have hcz20_0 : w19.cell? ⟨gb413, 0, none⟩ = some (.int .i64 a0_0) := (blk_cell BK413.out 0).trans rfl; have hcz20_1 : w19.cell? ⟨gb413, 1, none⟩ = some (.string a0_1) := (blk_cell BK413.out 1).trans rfl; have hcz20_2 : w19.cell? ⟨gb413, 2, none⟩ = some (.int .i64 a0_2) := (blk_cell BK413.out 2).trans rfl; have hcz20_3 : w19.cell? ⟨gb413, 3, none⟩ = some (.int .i64 a0_3) := (blk_cell BK413.out 3).trans rfl; have hfz20_0 := blk_frozen BK413.out 0; have hfz20_1 := blk_frozen BK413.out 1; have hfz20_2 := blk_frozen BK413.out 2; have hfz20_3 := blk_frozen BK413.out 3))
        go_ret
        exact ⟨er_, bl1_ HB.out GE413.out⟩
      · rw [if_neg c18] at H
        have c18b0 : (a0_0 == 1) = false := beq_eq_false_iff_ne.mpr c18
        have c18b1 : (a0_0 != 1) = true := bne_iff_ne.mpr c18
        by_cases c21 : a0_0 = 4
        · rw [if_pos c21] at H
          have c21b0 : (a0_0 == 4) = true := beq_iff_eq.mpr c21
          have c21b1 : (a0_0 != 4) = false := bne_eq_false_iff_eq.mpr c21
          clear c21
          obtain rfl := Option.some.inj H
          go_enter Tryd.func38, Tryd.ntmps38
          go_wp2_with (first | ((with_reducible refine gate_dst (N := 1) rfl ?_); refine box_event ?hg (N := 1) ?hd (cs := #[.int .i64 a0_0, .string a0_1, .int .i64 a0_2, .int .i64 a0_3]) (t := 46) ?hr ?_; (case hd => rfl); (case hg => rfl); (case hr => first | (go_simp; done) | (go_simp; rfl)); intro gb413 hg w22 hbox hb; have n0_ := Aside0.mk (below_step (bl_ HB.out) hb); have n1_ := Aside0.mk (hbox); have n2_ := Aside0.mk ((by rw [hg]; exact (below_size (bl_ HB.out)) : w.heap.size ≤ gb413)); have n3_ := Aside0.mk ((by rw [hg]; exact (below_size (bl_ HB.out)) : w.heap.size ≤ gb413)); clear HB; have HB := n0_; have BK413 := n1_; have GW413 := n2_; have GE413 := n3_; clear n0_ n1_ n2_ n3_; clear hb hbox hg; have hcz23_0 : w22.cell? ⟨gb413, 0, none⟩ = some (.int .i64 a0_0) := (blk_cell BK413.out 0).trans rfl; have hcz23_1 : w22.cell? ⟨gb413, 1, none⟩ = some (.string a0_1) := (blk_cell BK413.out 1).trans rfl; have hcz23_2 : w22.cell? ⟨gb413, 2, none⟩ = some (.int .i64 a0_2) := (blk_cell BK413.out 2).trans rfl; have hcz23_3 : w22.cell? ⟨gb413, 3, none⟩ = some (.int .i64 a0_3) := (blk_cell BK413.out 3).trans rfl; have hfz23_0 := blk_frozen BK413.out 0; have hfz23_1 := blk_frozen BK413.out 1; have hfz23_2 := blk_frozen BK413.out 2; have hfz23_3 := blk_frozen BK413.out 3))
          go_ret
          exact ⟨er_, bl1_ HB.out GE413.out⟩
        · rw [if_neg c21] at H
          have c21b0 : (a0_0 == 4) = false := beq_eq_false_iff_ne.mpr c21
          have c21b1 : (a0_0 != 4) = true := bne_iff_ne.mpr c21
          obtain rfl := Option.some.inj H
          go_enter Tryd.func38, Tryd.ntmps38
          go_wp2_with (first | ((with_reducible refine gate_dst (N := 1) rfl ?_); refine box_event ?hg (N := 1) ?hd (cs := #[.int .i64 a0_0, .string a0_1, .int .i64 a0_2, .int .i64 a0_3]) (t := 46) ?hr ?_; (case hd => rfl); (case hg => rfl); (case hr => first | (go_simp; done) | (go_simp; rfl)); intro gb413 hg w24 hbox hb; have n0_ := Aside0.mk (below_step (bl_ HB.out) hb); have n1_ := Aside0.mk (hbox); have n2_ := Aside0.mk ((by rw [hg]; exact (below_size (bl_ HB.out)) : w.heap.size ≤ gb413)); have n3_ := Aside0.mk ((by rw [hg]; exact (below_size (bl_ HB.out)) : w.heap.size ≤ gb413)); clear HB; have HB := n0_; have BK413 := n1_; have GW413 := n2_; have GE413 := n3_; clear n0_ n1_ n2_ n3_; clear hb hbox hg; have hcz25_0 : w24.cell? ⟨gb413, 0, none⟩ = some (.int .i64 a0_0) := (blk_cell BK413.out 0).trans rfl; have hcz25_1 : w24.cell? ⟨gb413, 1, none⟩ = some (.string a0_1) := (blk_cell BK413.out 1).trans rfl; have hcz25_2 : w24.cell? ⟨gb413, 2, none⟩ = some (.int .i64 a0_2) := (blk_cell BK413.out 2).trans rfl; have hcz25_3 : w24.cell? ⟨gb413, 3, none⟩ = some (.int .i64 a0_3) := (blk_cell BK413.out 3).trans rfl; have hfz25_0 := blk_frozen BK413.out 0; have hfz25_1 := blk_frozen BK413.out 1; have hfz25_2 := blk_frozen BK413.out 2; have hfz25_3 := blk_frozen BK413.out 3))
          go_ret
          exact ⟨er_, bl1_ HB.out GE413.out⟩
end Go.Proofs.YtkifdadhojbohaaDoor.Pr
namespace Go.Proofs.YtkifdadhojbohaaDoor.Pr
open Go.Proofs.YtkifdadhojbohaaDoor
open Go.RowKit Go.Proofs.YtkifdadhojbohaaDoorW.PrintWords Go.Proofs.YtkifdadhojbohaaDoorW.PrintLast Go.Proofs.YtkifdadhojbohaaDoorW.PrintMore
attribute [local go_sem] max2_int min2_int max_two min_two max_three min_three max_four min_four   -- for this text's walks alone
set_option linter.unusedVariables false
set_option linter.unusedSimpArgs false
attribute [local go_sem high] eqA46
/-! ### salchowref09_Valid: function 37 -/
def salchowref09_Valid.f (k : Nat) (a0_0 : Int) (a0_1 : ByteArray) (a0_2 : Int) (a0_3 : Int) : Option (Bool) := if a0_0 = 5 then (some (a0_0 == 5 && (a0_1.toList == ([] : List UInt8) && (a0_2 == 0)))) else ((salchowref09_Spell.f k a0_0 a0_1 a0_2 0).bind fun t416 => (if (t416.size : Int) = 0 then (some false) else (if (t416.size : Int) > 60 then (some false) else ((salchowref09_Token.f k t416 0).bind fun bt417 => (if bt417.2.2.2.2.2 = 0 then (if bt417.2.2.2.2.1 = (t416.size : Int) then (some (bt417.1 == a0_0 && (bt417.2.1.toList == a0_1.toList && (bt417.2.2.1 == a0_2 && (bt417.2.2.2.1 == 0))))) else (some false)) else (some false))))))
theorem salchowref09_Valid.mono : ∀ a0 a1 a2 a3 k, LeO (salchowref09_Valid.f k a0 a1 a2 a3) (salchowref09_Valid.f (k + 1) a0 a1 a2 a3) := by
  intro a0 a1 a2 a3 k
  unfold salchowref09_Valid.f
  repeat' first
      | (with_reducible exact salchowref09_Spell.mono _ _ _ _ _)
      | (with_reducible exact salchowref09_Token.mono _ _ _)
      | (with_reducible exact LeO.refl _)
      | (with_reducible exact LeO.none _)
      | (with_reducible refine LeO.ite ?_ ?_)
      | (with_reducible refine LeO.bind ?_ (fun _ => ?_))
      | exact salchowref09_Spell.mono _ _ _ _ _
      | exact salchowref09_Token.mono _ _ _
      | exact LeO.none _
      | refine LeO.ite ?_ ?_
      | refine LeO.bind ?_ (fun _ => ?_)
set_option maxHeartbeats 8000000 in
set_option maxRecDepth 100000 in
theorem salchowref09_Valid.calls (k : Nat) (a0_0 : Int) (a0_1 : ByteArray) (a0_2 : Int) (a0_3 : Int) (r : Bool) (w : World) (hG : Gl w) (h : salchowref09_Valid.f k a0_0 a0_1 a0_2 a0_3 = some r) :
    Calls Tryd.prog 37 #[.agg #[.int .i64 a0_0, .string a0_1, .int .i64 a0_2, .int .i64 a0_3]] w fun e w' => e = .returned (.bool r) ∧ Below w.heap.size w w' := by
  have hu46 := Tryd.underlying46
  have HB := Aside0.mk (Below.refl w.heap.size w)
  have H : (if a0_0 = 5 then (some (a0_0 == 5 && (a0_1.toList == ([] : List UInt8) && (a0_2 == 0)))) else ((salchowref09_Spell.f k a0_0 a0_1 a0_2 0).bind fun t416 => (if (t416.size : Int) = 0 then (some false) else (if (t416.size : Int) > 60 then (some false) else ((salchowref09_Token.f k t416 0).bind fun bt417 => (if bt417.2.2.2.2.2 = 0 then (if bt417.2.2.2.2.1 = (t416.size : Int) then (some (bt417.1 == a0_0 && (bt417.2.1.toList == a0_1.toList && (bt417.2.2.1 == a0_2 && (bt417.2.2.2.1 == 0))))) else (some false)) else (some false))))))) = some r := h
  clear h
  by_cases c2 : a0_0 = 5
  · rw [if_pos c2] at H
    have c2b0 : (a0_0 == 5) = true := beq_iff_eq.mpr c2
    have c2b1 : (a0_0 != 5) = false := bne_eq_false_iff_eq.mpr c2
    clear c2
    obtain rfl := Option.some.inj H
    go_enter Tryd.func37, Tryd.ntmps37
    go_wp2_with (first | ((with_reducible refine gate_dst (N := 1) rfl ?_); (try (refine gate_guard (by rfl) ?_; dsimp only)); refine box_event ?hg (N := 1) ?hd (cs := #[.int .i64 a0_0, .string a0_1, .int .i64 a0_2, .int .i64 a0_3]) (t := 46) ?hr ?_; (case hd => rfl); (case hg => rfl); (case hr => first | (go_simp; done) | (go_simp; rfl)); intro gb415 hg w3 hbox hb; have n0_ := Aside0.mk (below_step (bl_ HB.out) hb); have n1_ := Aside0.mk (hbox); have n2_ := Aside0.mk ((by rw [hg]; exact (below_size (bl_ HB.out)) : w.heap.size ≤ gb415)); have n3_ := Aside0.mk ((by rw [hg]; exact (below_size (bl_ HB.out)) : w.heap.size ≤ gb415)); clear HB; have HB := n0_; have BK415 := n1_; have GW415 := n2_; have GE415 := n3_; clear n0_ n1_ n2_ n3_; clear hb hbox hg; have hcz4_0 : w3.cell? ⟨gb415, 0, none⟩ = some (.int .i64 a0_0) := (blk_cell BK415.out 0).trans rfl; have hcz4_1 : w3.cell? ⟨gb415, 1, none⟩ = some (.string a0_1) := (blk_cell BK415.out 1).trans rfl; have hcz4_2 : w3.cell? ⟨gb415, 2, none⟩ = some (.int .i64 a0_2) := (blk_cell BK415.out 2).trans rfl; have hcz4_3 : w3.cell? ⟨gb415, 3, none⟩ = some (.int .i64 a0_3) := (blk_cell BK415.out 3).trans rfl; have hfz4_0 := blk_frozen BK415.out 0; have hfz4_1 := blk_frozen BK415.out 1; have hfz4_2 := blk_frozen BK415.out 2; have hfz4_3 := blk_frozen BK415.out 3))
    go_ret
    exact ⟨er_, bl1_ HB.out GE415.out⟩
  · rw [if_neg c2] at H
    have c2b0 : (a0_0 == 5) = false := beq_eq_false_iff_ne.mpr c2
    have c2b1 : (a0_0 != 5) = true := bne_iff_ne.mpr c2
    replace H := Option.bind_eq_some_iff.mp H
    obtain ⟨t416, A50, H⟩ := H
    replace H : (if (t416.size : Int) = 0 then (some false) else (if (t416.size : Int) > 60 then (some false) else ((salchowref09_Token.f k t416 0).bind fun bt417 => (if bt417.2.2.2.2.2 = 0 then (if bt417.2.2.2.2.1 = (t416.size : Int) then (some (bt417.1 == a0_0 && (bt417.2.1.toList == a0_1.toList && (bt417.2.2.1 == a0_2 && (bt417.2.2.2.1 == 0))))) else (some false)) else (some false))))) = some r := H
    have A5 := Aside0.mk A50
    clear A50
    by_cases c6 : (t416.size : Int) = 0
    · rw [if_pos c6] at H
      have c6b0 : ((t416.size : Int) == 0) = true := beq_iff_eq.mpr c6
      have c6b1 : ((t416.size : Int) != 0) = false := bne_eq_false_iff_eq.mpr c6
      clear c6
      obtain rfl := Option.some.inj H
      go_enter Tryd.func37, Tryd.ntmps37
      go_wp2_with (first | ((with_reducible refine gate_dst (N := 1) rfl ?_); (try (refine gate_guard (by rfl) ?_; dsimp only)); refine box_event ?hg (N := 1) ?hd (cs := #[.int .i64 a0_0, .string a0_1, .int .i64 a0_2, .int .i64 a0_3]) (t := 46) ?hr ?_; (case hd => rfl); (case hg => rfl); (case hr => first | (go_simp; done) | (go_simp; rfl)); intro gb415 hg w7 hbox hb; have n0_ := Aside0.mk (below_step (bl_ HB.out) hb); have n1_ := Aside0.mk (hbox); have n2_ := Aside0.mk ((by rw [hg]; exact (below_size (bl_ HB.out)) : w.heap.size ≤ gb415)); have n3_ := Aside0.mk ((by rw [hg]; exact (below_size (bl_ HB.out)) : w.heap.size ≤ gb415)); clear HB; have HB := n0_; have BK415 := n1_; have GW415 := n2_; have GE415 := n3_; clear n0_ n1_ n2_ n3_; clear hb hbox hg; have hcz8_0 : w7.cell? ⟨gb415, 0, none⟩ = some (.int .i64 a0_0) := (blk_cell BK415.out 0).trans rfl; have hcz8_1 : w7.cell? ⟨gb415, 1, none⟩ = some (.string a0_1) := (blk_cell BK415.out 1).trans rfl; have hcz8_2 : w7.cell? ⟨gb415, 2, none⟩ = some (.int .i64 a0_2) := (blk_cell BK415.out 2).trans rfl; have hcz8_3 : w7.cell? ⟨gb415, 3, none⟩ = some (.int .i64 a0_3) := (blk_cell BK415.out 3).trans rfl; have hfz8_0 := blk_frozen BK415.out 0; have hfz8_1 := blk_frozen BK415.out 1; have hfz8_2 := blk_frozen BK415.out 2; have hfz8_3 := blk_frozen BK415.out 3) | ((with_reducible refine gate_callee (f := 38) rfl ?_); refine goesL_ (some 15) rfl rfl Tryd.func38 (by kernel_rfl) rfl #[.agg #[.int .i64 a0_0, .string a0_1, .int .i64 a0_2, .int .i64 0]] rfl (by (try simp only [List.map_toArray, List.map_cons, List.map_nil]); first | done | rfl | (simp only [List.length_drop, List.length_take]; rfl)) ?_; (with_reducible refine (salchowref09_Spell.calls k a0_0 a0_1 a0_2 0 t416 _ ?side1 A5.out).mono ?_); (case side1 => exact Gl.below hG (bl1_ HB.out GE415.out)); rintro e w9 ⟨rfl, hb⟩; refine ⟨_, rfl, ?_⟩; have n0_ := Aside0.mk (blk_below (g := gb415) (o := .cells #[.int .i64 a0_0, .string a0_1, .int .i64 a0_2, .int .i64 0] 46 (0, 0)) (by (with_reducible repeat (first | refine blk_drewN ?_ _ | refine blk_drew ?_ | refine blk_alloc ?_ _)); refine blk_put (cs := #[.int .i64 a0_0, .string a0_1, .int .i64 a0_2, .int .i64 a0_3]) ?_ 3 _ rfl; (with_reducible repeat (first | refine blk_drewN ?_ _ | refine blk_drew ?_ | refine blk_alloc ?_ _)); exact BK415.out) hb); have n1_ := Aside0.mk (below_step (bl1_ HB.out GE415.out) hb); clear BK415; clear HB; have BK415 := n0_; have HB := n1_; clear n0_ n1_; (try clear hb); (try clear hb2); (try clear hk); (try clear hi)))
      go_ret
      exact ⟨er_, bl1_ HB.out GE415.out⟩
    · rw [if_neg c6] at H
      have c6b0 : ((t416.size : Int) == 0) = false := beq_eq_false_iff_ne.mpr c6
      have c6b1 : ((t416.size : Int) != 0) = true := bne_iff_ne.mpr c6
      by_cases c10 : (t416.size : Int) > 60
      · rw [if_pos c10] at H
        have c10b0 : decide (60 < (t416.size : Int)) = true := decide_eq_true c10
        have c10b1 : decide (60 < t416.size) = true := decide_eq_true (by omega)
        clear c10
        obtain rfl := Option.some.inj H
        go_enter Tryd.func37, Tryd.ntmps37
        go_wp2_with (first | ((with_reducible refine gate_dst (N := 1) rfl ?_); (try (refine gate_guard (by rfl) ?_; dsimp only)); refine box_event ?hg (N := 1) ?hd (cs := #[.int .i64 a0_0, .string a0_1, .int .i64 a0_2, .int .i64 a0_3]) (t := 46) ?hr ?_; (case hd => rfl); (case hg => rfl); (case hr => first | (go_simp; done) | (go_simp; rfl)); intro gb415 hg w11 hbox hb; have n0_ := Aside0.mk (below_step (bl_ HB.out) hb); have n1_ := Aside0.mk (hbox); have n2_ := Aside0.mk ((by rw [hg]; exact (below_size (bl_ HB.out)) : w.heap.size ≤ gb415)); have n3_ := Aside0.mk ((by rw [hg]; exact (below_size (bl_ HB.out)) : w.heap.size ≤ gb415)); clear HB; have HB := n0_; have BK415 := n1_; have GW415 := n2_; have GE415 := n3_; clear n0_ n1_ n2_ n3_; clear hb hbox hg; have hcz12_0 : w11.cell? ⟨gb415, 0, none⟩ = some (.int .i64 a0_0) := (blk_cell BK415.out 0).trans rfl; have hcz12_1 : w11.cell? ⟨gb415, 1, none⟩ = some (.string a0_1) := (blk_cell BK415.out 1).trans rfl; have hcz12_2 : w11.cell? ⟨gb415, 2, none⟩ = some (.int .i64 a0_2) := (blk_cell BK415.out 2).trans rfl; have hcz12_3 : w11.cell? ⟨gb415, 3, none⟩ = some (.int .i64 a0_3) := (blk_cell BK415.out 3).trans rfl; have hfz12_0 := blk_frozen BK415.out 0; have hfz12_1 := blk_frozen BK415.out 1; have hfz12_2 := blk_frozen BK415.out 2; have hfz12_3 := blk_frozen BK415.out 3) | ((with_reducible refine gate_callee (f := 38) rfl ?_); refine goesL_ (some 15) rfl rfl Tryd.func38 (by kernel_rfl) rfl #[.agg #[.int .i64 a0_0, .string a0_1, .int .i64 a0_2, .int .i64 0]] rfl (by (try simp only [List.map_toArray, List.map_cons, List.map_nil]); first | done | rfl | (simp only [List.length_drop, List.length_take]; rfl)) ?_; (with_reducible refine (salchowref09_Spell.calls k a0_0 a0_1 a0_2 0 t416 _ ?side1 A5.out).mono ?_); (case side1 => exact Gl.below hG (bl1_ HB.out GE415.out)); rintro e w13 ⟨rfl, hb⟩; refine ⟨_, rfl, ?_⟩; have n0_ := Aside0.mk (blk_below (g := gb415) (o := .cells #[.int .i64 a0_0, .string a0_1, .int .i64 a0_2, .int .i64 0] 46 (0, 0)) (by (with_reducible repeat (first | refine blk_drewN ?_ _ | refine blk_drew ?_ | refine blk_alloc ?_ _)); refine blk_put (cs := #[.int .i64 a0_0, .string a0_1, .int .i64 a0_2, .int .i64 a0_3]) ?_ 3 _ rfl; (with_reducible repeat (first | refine blk_drewN ?_ _ | refine blk_drew ?_ | refine blk_alloc ?_ _)); exact BK415.out) hb); have n1_ := Aside0.mk (below_step (bl1_ HB.out GE415.out) hb); clear BK415; clear HB; have BK415 := n0_; have HB := n1_; clear n0_ n1_; (try clear hb); (try clear hb2); (try clear hk); (try clear hi)))
        go_ret
        exact ⟨er_, bl1_ HB.out GE415.out⟩
      · rw [if_neg c10] at H
        have c10b0 : decide (60 < (t416.size : Int)) = false := decide_eq_false c10
        have c10b1 : decide (60 < t416.size) = false := decide_eq_false (by omega)
        clear c10
        replace H := Option.bind_eq_some_iff.mp H
        obtain ⟨⟨t417, t418, t419, t420, t421, t422⟩, A140, H⟩ := H
        replace H : (if t422 = 0 then (if t421 = (t416.size : Int) then (some (t417 == a0_0 && (t418.toList == a0_1.toList && (t419 == a0_2 && (t420 == 0))))) else (some false)) else (some false)) = some r := H
        have A14 := Aside0.mk A140
        clear A140
        by_cases c15 : t422 = 0
        · rw [if_pos c15] at H
          have c15b0 : (t422 == 0) = true := beq_iff_eq.mpr c15
          have c15b1 : (t422 != 0) = false := bne_eq_false_iff_eq.mpr c15
          clear c15
          by_cases c16 : t421 = (t416.size : Int)
          · rw [if_pos c16] at H
            have c16b0 : (t421 == (t416.size : Int)) = true := beq_iff_eq.mpr c16
            have c16b1 : (t421 != (t416.size : Int)) = false := bne_eq_false_iff_eq.mpr c16
            clear c16
            obtain rfl := Option.some.inj H
            go_enter Tryd.func37, Tryd.ntmps37
            go_wp2_with (first | ((with_reducible refine gate_dst (N := 1) rfl ?_); (try (refine gate_guard (by rfl) ?_; dsimp only)); refine box_event ?hg (N := 1) ?hd (cs := #[.int .i64 a0_0, .string a0_1, .int .i64 a0_2, .int .i64 a0_3]) (t := 46) ?hr ?_; (case hd => rfl); (case hg => rfl); (case hr => first | (go_simp; done) | (go_simp; rfl)); intro gb415 hg w17 hbox hb; have n0_ := Aside0.mk (below_step (bl_ HB.out) hb); have n1_ := Aside0.mk (hbox); have n2_ := Aside0.mk ((by rw [hg]; exact (below_size (bl_ HB.out)) : w.heap.size ≤ gb415)); have n3_ := Aside0.mk ((by rw [hg]; exact (below_size (bl_ HB.out)) : w.heap.size ≤ gb415)); clear HB; have HB := n0_; have BK415 := n1_; have GW415 := n2_; have GE415 := n3_; clear n0_ n1_ n2_ n3_; clear hb hbox hg; have hcz18_0 : w17.cell? ⟨gb415, 0, none⟩ = some (.int .i64 a0_0) := (blk_cell BK415.out 0).trans rfl; have hcz18_1 : w17.cell? ⟨gb415, 1, none⟩ = some (.string a0_1) := (blk_cell BK415.out 1).trans rfl; have hcz18_2 : w17.cell? ⟨gb415, 2, none⟩ = some (.int .i64 a0_2) := (blk_cell BK415.out 2).trans rfl; have hcz18_3 : w17.cell? ⟨gb415, 3, none⟩ = some (.int .i64 a0_3) := (blk_cell BK415.out 3).trans rfl; have hfz18_0 := blk_frozen BK415.out 0; have hfz18_1 := blk_frozen BK415.out 1; have hfz18_2 := blk_frozen BK415.out 2; have hfz18_3 := blk_frozen BK415.out 3) | ((with_reducible refine gate_callee (f := 38) rfl ?_); refine goesL_ (some 15) rfl rfl Tryd.func38 (by kernel_rfl) rfl #[.agg #[.int .i64 a0_0, .string a0_1, .int .i64 a0_2, .int .i64 0]] rfl (by (try simp only [List.map_toArray, List.map_cons, List.map_nil]); first | done | rfl | (simp only [List.length_drop, List.length_take]; rfl)) ?_; (with_reducible refine (salchowref09_Spell.calls k a0_0 a0_1 a0_2 0 t416 _ ?side1 A5.out).mono ?_); (case side1 => exact Gl.below hG (bl1_ HB.out GE415.out)); rintro e w19 ⟨rfl, hb⟩; refine ⟨_, rfl, ?_⟩; have n0_ := Aside0.mk (blk_below (g := gb415) (o := .cells #[.int .i64 a0_0, .string a0_1, .int .i64 a0_2, .int .i64 0] 46 (0, 0)) (by (with_reducible repeat (first | refine blk_drewN ?_ _ | refine blk_drew ?_ | refine blk_alloc ?_ _)); refine blk_put (cs := #[.int .i64 a0_0, .string a0_1, .int .i64 a0_2, .int .i64 a0_3]) ?_ 3 _ rfl; (with_reducible repeat (first | refine blk_drewN ?_ _ | refine blk_drew ?_ | refine blk_alloc ?_ _)); exact BK415.out) hb); have n1_ := Aside0.mk (below_step (bl1_ HB.out GE415.out) hb); clear BK415; clear HB; have BK415 := n0_; have HB := n1_; clear n0_ n1_; (try clear hb); (try clear hb2); (try clear hk); (try clear hi)) | ((with_reducible refine gate_callee (f := 66) rfl ?_); refine goesL_ (some 26) rfl rfl Tryd.func66 (by kernel_rfl) rfl #[.string t416, .int .i64 0] rfl (by (try simp only [List.map_toArray, List.map_cons, List.map_nil]); first | done | rfl | (simp only [List.length_drop, List.length_take]; rfl)) ?_; (with_reducible refine (salchowref09_Token.calls k t416 0 t417 t418 t419 t420 t421 t422 _ A14.out).mono ?_); rintro e w20 ⟨rfl, hb⟩; refine ⟨_, rfl, ?_⟩; have n0_ := Aside0.mk (blk_below (g := gb415) (o := .cells #[.int .i64 a0_0, .string a0_1, .int .i64 a0_2, .int .i64 0] 46 (0, 0)) (bk_ BK415.out) hb); have n1_ := Aside0.mk (below_step (bl1_ HB.out GE415.out) hb); clear BK415; clear HB; have BK415 := n0_; have HB := n1_; clear n0_ n1_; (try clear hb); (try clear hb2); (try clear hk); (try clear hi)) | ((with_reducible refine gate_dst (N := 4) rfl ?_); (try (refine gate_guard (by rfl) ?_; dsimp only)); refine box_event ?hg (N := 4) ?hd (cs := #[.int .i64 0, .string (⟨#[]⟩ : ByteArray), .int .i64 0, .int .i64 0]) (t := 46) ?hr ?_; (case hd => rfl); (case hg => rfl); (case hr => first | (go_simp; done) | (go_simp; rfl)); intro gb423 hg w21 hbox hb; have n0_ := Aside0.mk (blk_below (g := gb415) (o := .cells #[.int .i64 a0_0, .string a0_1, .int .i64 a0_2, .int .i64 0] 46 (0, 0)) (bk_ BK415.out) hb); have n1_ := Aside0.mk (below_step (bl1_ HB.out GE415.out) hb); have n2_ := Aside0.mk (hbox); have n3_ := Aside0.mk ((by rw [hg]; exact (below_size (bl1_ HB.out GE415.out)) : w.heap.size ≤ gb423)); have n4_ := Aside0.mk ((by rw [hg]; exact (below_size (bl1_ HB.out GE415.out)) : w.heap.size ≤ gb423)); have n5_ := Aside0.mk ((by rw [hg]; exact Nat.ne_of_lt (blk_lt (g := gb415) (o := .cells #[.int .i64 a0_0, .string a0_1, .int .i64 a0_2, .int .i64 0] 46 (0, 0)) (bk_ BK415.out)) : gb415 ≠ gb423)); have n6_ := Aside0.mk ((by rw [hg]; exact Nat.ne_of_gt (blk_lt (g := gb415) (o := .cells #[.int .i64 a0_0, .string a0_1, .int .i64 a0_2, .int .i64 0] 46 (0, 0)) (bk_ BK415.out)) : gb423 ≠ gb415)); clear BK415; clear HB; have BK415 := n0_; have HB := n1_; have BK423 := n2_; have GW423 := n3_; have GE423 := n4_; have NB415_423 := n5_; have NB423_415 := n6_; clear n0_ n1_ n2_ n3_ n4_ n5_ n6_; clear hb hbox hg; have hnb22 := NB423_415.out; have hnc22 := NB415_423.out; have hcz23_0 : w21.cell? ⟨gb423, 0, none⟩ = some (.int .i64 0) := (blk_cell BK423.out 0).trans rfl; have hcz23_1 : w21.cell? ⟨gb423, 1, none⟩ = some (.string (⟨#[]⟩ : ByteArray)) := (blk_cell BK423.out 1).trans rfl; have hcz23_2 : w21.cell? ⟨gb423, 2, none⟩ = some (.int .i64 0) := (blk_cell BK423.out 2).trans rfl; have hcz23_3 : w21.cell? ⟨gb423, 3, none⟩ = some (.int .i64 0) := (blk_cell BK423.out 3).trans rfl; have hfz23_0 := blk_frozen BK423.out 0; have hfz23_1 := blk_frozen BK423.out 1; have hfz23_2 := blk_frozen BK423.out 2; have hfz23_3 := blk_frozen BK423.out 3; have hcz24_0 : w21.cell? ⟨gb415, 0, none⟩ = some (.int .i64 a0_0) := (blk_cell BK415.out 0).trans rfl; have hcz24_1 : w21.cell? ⟨gb415, 1, none⟩ = some (.string a0_1) := (blk_cell BK415.out 1).trans rfl; have hcz24_2 : w21.cell? ⟨gb415, 2, none⟩ = some (.int .i64 a0_2) := (blk_cell BK415.out 2).trans rfl; have hcz24_3 : w21.cell? ⟨gb415, 3, none⟩ = some (.int .i64 0) := (blk_cell BK415.out 3).trans rfl; have hfz24_0 := blk_frozen BK415.out 0; have hfz24_1 := blk_frozen BK415.out 1; have hfz24_2 := blk_frozen BK415.out 2; have hfz24_3 := blk_frozen BK415.out 3))
            go_ret
            exact ⟨er_, bl2_ HB.out GE415.out GE423.out⟩
          · rw [if_neg c16] at H
            have c16b0 : (t421 == (t416.size : Int)) = false := beq_eq_false_iff_ne.mpr c16
            have c16b1 : (t421 != (t416.size : Int)) = true := bne_iff_ne.mpr c16
            obtain rfl := Option.some.inj H
            go_enter Tryd.func37, Tryd.ntmps37
            go_wp2_with (first | ((with_reducible refine gate_dst (N := 1) rfl ?_); (try (refine gate_guard (by rfl) ?_; dsimp only)); refine box_event ?hg (N := 1) ?hd (cs := #[.int .i64 a0_0, .string a0_1, .int .i64 a0_2, .int .i64 a0_3]) (t := 46) ?hr ?_; (case hd => rfl); (case hg => rfl); (case hr => first | (go_simp; done) | (go_simp; rfl)); intro gb415 hg w25 hbox hb; have n0_ := Aside0.mk (below_step (bl_ HB.out) hb); have n1_ := Aside0.mk (hbox); have n2_ := Aside0.mk ((by rw [hg]; exact (below_size (bl_ HB.out)) : w.heap.size ≤ gb415)); have n3_ := Aside0.mk ((by rw [hg]; exact (below_size (bl_ HB.out)) : w.heap.size ≤ gb415)); clear HB; have HB := n0_; have BK415 := n1_; have GW415 := n2_; have GE415 := n3_; clear n0_ n1_ n2_ n3_; clear hb hbox hg; have hcz26_0 : w25.cell? ⟨gb415, 0, none⟩ = some (.int .i64 a0_0) := (blk_cell BK415.out 0).trans rfl; have hcz26_1 : w25.cell? ⟨gb415, 1, none⟩ = some (.string a0_1) := (blk_cell BK415.out 1).trans rfl; have hcz26_2 : w25.cell? ⟨gb415, 2, none⟩ = some (.int .i64 a0_2) := (blk_cell BK415.out 2).trans rfl; have hcz26_3 : w25.cell? ⟨gb415, 3, none⟩ = some (.int .i64 a0_3) := (blk_cell BK415.out 3).trans rfl; have hfz26_0 := blk_frozen BK415.out 0; have hfz26_1 := blk_frozen BK415.out 1; have hfz26_2 := blk_frozen BK415.out 2; have hfz26_3 := blk_frozen BK415.out 3) | ((with_reducible refine gate_callee (f := 38) rfl ?_); refine goesL_ (some 15) rfl rfl Tryd.func38 (by kernel_rfl) rfl #[.agg #[.int .i64 a0_0, .string a0_1, .int .i64 a0_2, .int .i64 0]] rfl (by (try simp only [List.map_toArray, List.map_cons, List.map_nil]); first | done | rfl | (simp only [List.length_drop, List.length_take]; rfl)) ?_; (with_reducible refine (salchowref09_Spell.calls k a0_0 a0_1 a0_2 0 t416 _ ?side1 A5.out).mono ?_); (case side1 => exact Gl.below hG (bl1_ HB.out GE415.out)); rintro e w27 ⟨rfl, hb⟩; refine ⟨_, rfl, ?_⟩; have n0_ := Aside0.mk (blk_below (g := gb415) (o := .cells #[.int .i64 a0_0, .string a0_1, .int .i64 a0_2, .int .i64 0] 46 (0, 0)) (by (with_reducible repeat (first | refine blk_drewN ?_ _ | refine blk_drew ?_ | refine blk_alloc ?_ _)); refine blk_put (cs := #[.int .i64 a0_0, .string a0_1, .int .i64 a0_2, .int .i64 a0_3]) ?_ 3 _ rfl; (with_reducible repeat (first | refine blk_drewN ?_ _ | refine blk_drew ?_ | refine blk_alloc ?_ _)); exact BK415.out) hb); have n1_ := Aside0.mk (below_step (bl1_ HB.out GE415.out) hb); clear BK415; clear HB; have BK415 := n0_; have HB := n1_; clear n0_ n1_; (try clear hb); (try clear hb2); (try clear hk); (try clear hi)) | ((with_reducible refine gate_callee (f := 66) rfl ?_); refine goesL_ (some 26) rfl rfl Tryd.func66 (by kernel_rfl) rfl #[.string t416, .int .i64 0] rfl (by (try simp only [List.map_toArray, List.map_cons, List.map_nil]); first | done | rfl | (simp only [List.length_drop, List.length_take]; rfl)) ?_; (with_reducible refine (salchowref09_Token.calls k t416 0 t417 t418 t419 t420 t421 t422 _ A14.out).mono ?_); rintro e w28 ⟨rfl, hb⟩; refine ⟨_, rfl, ?_⟩; have n0_ := Aside0.mk (blk_below (g := gb415) (o := .cells #[.int .i64 a0_0, .string a0_1, .int .i64 a0_2, .int .i64 0] 46 (0, 0)) (bk_ BK415.out) hb); have n1_ := Aside0.mk (below_step (bl1_ HB.out GE415.out) hb); clear BK415; clear HB; have BK415 := n0_; have HB := n1_; clear n0_ n1_; (try clear hb); (try clear hb2); (try clear hk); (try clear hi)) | ((with_reducible refine gate_dst (N := 4) rfl ?_); (try (refine gate_guard (by rfl) ?_; dsimp only)); refine box_event ?hg (N := 4) ?hd (cs := #[.int .i64 0, .string (⟨#[]⟩ : ByteArray), .int .i64 0, .int .i64 0]) (t := 46) ?hr ?_; (case hd => rfl); (case hg => rfl); (case hr => first | (go_simp; done) | (go_simp; rfl)); intro gb423 hg w29 hbox hb; have n0_ := Aside0.mk (blk_below (g := gb415) (o := .cells #[.int .i64 a0_0, .string a0_1, .int .i64 a0_2, .int .i64 0] 46 (0, 0)) (bk_ BK415.out) hb); have n1_ := Aside0.mk (below_step (bl1_ HB.out GE415.out) hb); have n2_ := Aside0.mk (hbox); have n3_ := Aside0.mk ((by rw [hg]; exact (below_size (bl1_ HB.out GE415.out)) : w.heap.size ≤ gb423)); have n4_ := Aside0.mk ((by rw [hg]; exact (below_size (bl1_ HB.out GE415.out)) : w.heap.size ≤ gb423)); have n5_ := Aside0.mk ((by rw [hg]; exact Nat.ne_of_lt (blk_lt (g := gb415) (o := .cells #[.int .i64 a0_0, .string a0_1, .int .i64 a0_2, .int .i64 0] 46 (0, 0)) (bk_ BK415.out)) : gb415 ≠ gb423)); have n6_ := Aside0.mk ((by rw [hg]; exact Nat.ne_of_gt (blk_lt (g := gb415) (o := .cells #[.int .i64 a0_0, .string a0_1, .int .i64 a0_2, .int .i64 0] 46 (0, 0)) (bk_ BK415.out)) : gb423 ≠ gb415)); clear BK415; clear HB; have BK415 := n0_; have HB := n1_; have BK423 := n2_; have GW423 := n3_; have GE423 := n4_; have NB415_423 := n5_; have NB423_415 := n6_; clear n0_ n1_ n2_ n3_ n4_ n5_ n6_; clear hb hbox hg; have hnb30 := NB423_415.out; have hnc30 := NB415_423.out; have hcz31_0 : w29.cell? ⟨gb423, 0, none⟩ = some (.int .i64 0) := (blk_cell BK423.out 0).trans rfl; have hcz31_1 : w29.cell? ⟨gb423, 1, none⟩ = some (.string (⟨#[]⟩ : ByteArray)) := (blk_cell BK423.out 1).trans rfl; have hcz31_2 : w29.cell? ⟨gb423, 2, none⟩ = some (.int .i64 0) := (blk_cell BK423.out 2).trans rfl; have hcz31_3 : w29.cell? ⟨gb423, 3, none⟩ = some (.int .i64 0) := (blk_cell BK423.out 3).trans rfl; have hfz31_0 := blk_frozen BK423.out 0; have hfz31_1 := blk_frozen BK423.out 1; have hfz31_2 := blk_frozen BK423.out 2; have hfz31_3 := blk_frozen BK423.out 3))
            go_ret
            exact ⟨er_, bl2_ HB.out GE415.out GE423.out⟩
        · rw [if_neg c15] at H
          have c15b0 : (t422 == 0) = false := beq_eq_false_iff_ne.mpr c15
          have c15b1 : (t422 != 0) = true := bne_iff_ne.mpr c15
          obtain rfl := Option.some.inj H
          go_enter Tryd.func37, Tryd.ntmps37
          go_wp2_with (first | ((with_reducible refine gate_dst (N := 1) rfl ?_); (try (refine gate_guard (by rfl) ?_; dsimp only)); refine box_event ?hg (N := 1) ?hd (cs := #[.int .i64 a0_0, .string a0_1, .int .i64 a0_2, .int .i64 a0_3]) (t := 46) ?hr ?_; (case hd => rfl); (case hg => rfl); (case hr => first | (go_simp; done) | (go_simp; rfl)); intro gb415 hg w32 hbox hb; have n0_ := Aside0.mk (below_step (bl_ HB.out) hb); have n1_ := Aside0.mk (hbox); have n2_ := Aside0.mk ((by rw [hg]; exact (below_size (bl_ HB.out)) : w.heap.size ≤ gb415)); have n3_ := Aside0.mk ((by rw [hg]; exact (below_size (bl_ HB.out)) : w.heap.size ≤ gb415)); clear HB; have HB := n0_; have BK415 := n1_; have GW415 := n2_; have GE415 := n3_; clear n0_ n1_ n2_ n3_; clear hb hbox hg; have hcz33_0 : w32.cell? ⟨gb415, 0, none⟩ = some (.int .i64 a0_0) := (blk_cell BK415.out 0).trans rfl; have hcz33_1 : w32.cell? ⟨gb415, 1, none⟩ = some (.string a0_1) := (blk_cell BK415.out 1).trans rfl; have hcz33_2 : w32.cell? ⟨gb415, 2, none⟩ = some (.int .i64 a0_2) := (blk_cell BK415.out 2).trans rfl; have hcz33_3 : w32.cell? ⟨gb415, 3, none⟩ = some (.int .i64 a0_3) := (blk_cell BK415.out 3).trans rfl; have hfz33_0 := blk_frozen BK415.out 0; have hfz33_1 := blk_frozen BK415.out 1; have hfz33_2 := blk_frozen BK415.out 2; have hfz33_3 := blk_frozen BK415.out 3) | ((with_reducible refine gate_callee (f := 38) rfl ?_); refine goesL_ (some 15) rfl rfl Tryd.func38 (by kernel_rfl) rfl #[.agg #[.int .i64 a0_0, .string a0_1, .int .i64 a0_2, .int .i64 0]] rfl (by (try simp only [List.map_toArray, List.map_cons, List.map_nil]); first | done | rfl | (simp only [List.length_drop, List.length_take]; rfl)) ?_; (with_reducible refine (salchowref09_Spell.calls k a0_0 a0_1 a0_2 0 t416 _ ?side1 A5.out).mono ?_); (case side1 => exact Gl.below hG (bl1_ HB.out GE415.out)); rintro e w34 ⟨rfl, hb⟩; refine ⟨_, rfl, ?_⟩; have n0_ := Aside0.mk (blk_below (g := gb415) (o := .cells #[.int .i64 a0_0, .string a0_1, .int .i64 a0_2, .int .i64 0] 46 (0, 0)) (by (with_reducible repeat (first | refine blk_drewN ?_ _ | refine blk_drew ?_ | refine blk_alloc ?_ _)); refine blk_put (cs := #[.int .i64 a0_0, .string a0_1, .int .i64 a0_2, .int .i64 a0_3]) ?_ 3 _ rfl; (with_reducible repeat (first | refine blk_drewN ?_ _ | refine blk_drew ?_ | refine blk_alloc ?_ _)); exact BK415.out) hb); have n1_ := Aside0.mk (below_step (bl1_ HB.out GE415.out) hb); clear BK415; clear HB; have BK415 := n0_; have HB := n1_; clear n0_ n1_; (try clear hb); (try clear hb2); (try clear hk); (try clear hi)) | ((with_reducible refine gate_callee (f := 66) rfl ?_); refine goesL_ (some 26) rfl rfl Tryd.func66 (by kernel_rfl) rfl #[.string t416, .int .i64 0] rfl (by (try simp only [List.map_toArray, List.map_cons, List.map_nil]); first | done | rfl | (simp only [List.length_drop, List.length_take]; rfl)) ?_; (with_reducible refine (salchowref09_Token.calls k t416 0 t417 t418 t419 t420 t421 t422 _ A14.out).mono ?_); rintro e w35 ⟨rfl, hb⟩; refine ⟨_, rfl, ?_⟩; have n0_ := Aside0.mk (blk_below (g := gb415) (o := .cells #[.int .i64 a0_0, .string a0_1, .int .i64 a0_2, .int .i64 0] 46 (0, 0)) (bk_ BK415.out) hb); have n1_ := Aside0.mk (below_step (bl1_ HB.out GE415.out) hb); clear BK415; clear HB; have BK415 := n0_; have HB := n1_; clear n0_ n1_; (try clear hb); (try clear hb2); (try clear hk); (try clear hi)) | ((with_reducible refine gate_dst (N := 4) rfl ?_); (try (refine gate_guard (by rfl) ?_; dsimp only)); refine box_event ?hg (N := 4) ?hd (cs := #[.int .i64 0, .string (⟨#[]⟩ : ByteArray), .int .i64 0, .int .i64 0]) (t := 46) ?hr ?_; (case hd => rfl); (case hg => rfl); (case hr => first | (go_simp; done) | (go_simp; rfl)); intro gb423 hg w36 hbox hb; have n0_ := Aside0.mk (blk_below (g := gb415) (o := .cells #[.int .i64 a0_0, .string a0_1, .int .i64 a0_2, .int .i64 0] 46 (0, 0)) (bk_ BK415.out) hb); have n1_ := Aside0.mk (below_step (bl1_ HB.out GE415.out) hb); have n2_ := Aside0.mk (hbox); have n3_ := Aside0.mk ((by rw [hg]; exact (below_size (bl1_ HB.out GE415.out)) : w.heap.size ≤ gb423)); have n4_ := Aside0.mk ((by rw [hg]; exact (below_size (bl1_ HB.out GE415.out)) : w.heap.size ≤ gb423)); have n5_ := Aside0.mk ((by rw [hg]; exact Nat.ne_of_lt (blk_lt (g := gb415) (o := .cells #[.int .i64 a0_0, .string a0_1, .int .i64 a0_2, .int .i64 0] 46 (0, 0)) (bk_ BK415.out)) : gb415 ≠ gb423)); have n6_ := Aside0.mk ((by rw [hg]; exact Nat.ne_of_gt (blk_lt (g := gb415) (o := .cells #[.int .i64 a0_0, .string a0_1, .int .i64 a0_2, .int .i64 0] 46 (0, 0)) (bk_ BK415.out)) : gb423 ≠ gb415)); clear BK415; clear HB; have BK415 := n0_; have HB := n1_; have BK423 := n2_; have GW423 := n3_; have GE423 := n4_; have NB415_423 := n5_; have NB423_415 := n6_; clear n0_ n1_ n2_ n3_ n4_ n5_ n6_; clear hb hbox hg; have hnb37 := NB423_415.out; have hnc37 := NB415_423.out; have hcz38_0 : w36.cell? ⟨gb423, 0, none⟩ = some (.int .i64 0) := (blk_cell BK423.out 0).trans rfl; have hcz38_1 : w36.cell? ⟨gb423, 1, none⟩ = some (.string (⟨#[]⟩ : ByteArray)) := (blk_cell BK423.out 1).trans rfl; have hcz38_2 : w36.cell? ⟨gb423, 2, none⟩ = some (.int .i64 0) := (blk_cell BK423.out 2).trans rfl; have hcz38_3 : w36.cell? ⟨gb423, 3, none⟩ = some (.int .i64 0) := (blk_cell BK423.out 3).trans rfl; have hfz38_0 := blk_frozen BK423.out 0; have hfz38_1 := blk_frozen BK423.out 1; have hfz38_2 := blk_frozen BK423.out 2; have hfz38_3 := blk_frozen BK423.out 3))
          go_ret
          exact ⟨er_, bl2_ HB.out GE415.out GE423.out⟩
end Go.Proofs.YtkifdadhojbohaaDoor.Pr
namespace Go.Proofs.YtkifdadhojbohaaDoor.Pr
open Go.Proofs.YtkifdadhojbohaaDoor
open Go.RowKit Go.Proofs.YtkifdadhojbohaaDoorW.PrintWords Go.Proofs.YtkifdadhojbohaaDoorW.PrintLast Go.Proofs.YtkifdadhojbohaaDoorW.PrintMore
attribute [local go_sem] max2_int min2_int max_two min_two max_three min_three max_four min_four   -- for this text's walks alone
set_option linter.unusedVariables false
set_option linter.unusedSimpArgs false
attribute [local go_sem high] eqA26 eqA46
/-! ### salchowlaw09_LexerSpells: function 9 -/
def salchowlaw09_LexerSpells.f (k : Nat) (a0_0 : Int) (a0_1 : ByteArray) (a0_2 : Int) (a0_3 : Int) : Option (Bool) := if (a0_1.size : Int) > 100 then ((salchowlaw09_awake.f k).bind fun t217 => (some t217)) else ((lexer_Spell.f k a0_0 a0_1 a0_2 a0_3).bind fun bt218 => ((lexer_Valid.f k a0_0 a0_1 a0_2 a0_3).bind fun t220 => ((salchowref09_Valid.f k a0_0 a0_1 a0_2 a0_3).bind fun t221 => (if (t220 != t221) = true then (none) else ((salchowref09_Valid.f k a0_0 a0_1 a0_2 a0_3).bind fun t222 => (if t222 = true then ((lexer_Lex.f k bt218.1).bind fun bt224 => (if a0_0 = 5 then ((salchowlaw09_awake.f k).bind fun t230 => (if t230 = true then (if bt218.2 = 0 then (some (bt218.1.toList == ([] : List UInt8))) else (none)) else (none))) else ((salchowlaw09_awake.f k).bind fun t231 => (if t231 = true then (if bt218.2 = 0 then ((salchowref09_Spell.f k a0_0 a0_1 a0_2 0).bind fun t232 => (if bt218.1.toList = t232.toList then (if (bt224.2.1 == 0 && (bt224.2.2 == 0)) = true then (if (bt224.1.length : Int) = 2 then (if 0 < (bt224.1.length : Int) then (if (((rd_T46 bt224.1 0).f0) == a0_0 && ((((rd_T46 bt224.1 0).f1).toList) == a0_1.toList && (((rd_T46 bt224.1 0).f2) == a0_2 && (((rd_T46 bt224.1 0).f3) == 0)))) = true then (if 1 < (bt224.1.length : Int) then (some (((rd_T46 bt224.1 1).f3) == (bt218.1.size : Int))) else (none)) else (none)) else (none)) else (none)) else (none)) else (none))) else (none)) else (none))))) else ((salchowlaw09_awake.f k).bind fun t223 => (if t223 = true then (if bt218.2 = 1 then (some (bt218.1.toList == ([] : List UInt8))) else (none)) else (none)))))))))
theorem salchowlaw09_LexerSpells.mono : ∀ a0 a1 a2 a3 k, LeO (salchowlaw09_LexerSpells.f k a0 a1 a2 a3) (salchowlaw09_LexerSpells.f (k + 1) a0 a1 a2 a3) := by
  intro a0 a1 a2 a3 k
  unfold salchowlaw09_LexerSpells.f
  repeat' first
      | (with_reducible exact lexer_Lex.mono _ _)
      | (with_reducible exact lexer_Spell.mono _ _ _ _ _)
      | (with_reducible exact lexer_Valid.mono _ _ _ _ _)
      | (with_reducible exact salchowlaw09_awake.mono _)
      | (with_reducible exact salchowref09_Spell.mono _ _ _ _ _)
      | (with_reducible exact salchowref09_Valid.mono _ _ _ _ _)
      | (with_reducible exact LeO.refl _)
      | (with_reducible exact LeO.none _)
      | (with_reducible refine LeO.ite ?_ ?_)
      | (with_reducible refine LeO.bind ?_ (fun _ => ?_))
      | exact lexer_Lex.mono _ _
      | exact lexer_Spell.mono _ _ _ _ _
      | exact lexer_Valid.mono _ _ _ _ _
      | exact salchowlaw09_awake.mono _
      | exact salchowref09_Spell.mono _ _ _ _ _
      | exact salchowref09_Valid.mono _ _ _ _ _
      | exact LeO.none _
      | refine LeO.ite ?_ ?_
      | refine LeO.bind ?_ (fun _ => ?_)
def salchowlaw09_LexerSpells.T12 : Bool × List (List Nat × List Nat) := (true, [([], []), ([0, 0], [0]), ([1], [1]), ([2, 1], [1, 2]), ([1, 3], [1, 3]), ([4, 1], [4]), ([5], [5]), ([5], [5]), ([7, 5, 5], [5, 7]), ([6, 8, 5], [5, 6, 8]), ([5, 9], [5, 9]), ([10, 8], [10]), ([11], [11]), ([11], [11]), ([12, 13, 11], [11, 12, 13]), ([11, 14], [11, 14]), ([15, 11], [15]), ([16], [16]), ([17, 16], [16, 17]), ([18, 16], [16, 18]), ([16, 19], [16, 19]), ([20, 16], [20]), ([21], [21]), ([22, 21], [21, 22]), ([23, 21], [21, 23]), ([21], [21]), ([24, 25, 21], [21, 24, 25]), ([21, 26], [21, 26]), ([27, 21], [27]), ([28], [28]), ([29, 28], [28, 29]), ([30, 28], [28, 30]), ([31, 28], [28, 31]), ([28], [28]), ([33, 28], [28, 33]), ([32, 34, 28], [28, 32, 34]), ([28, 35], [28, 35]), ([36, 28, 0, 1, 2, 3, 4, 5, 6, 7, 8, 9, 10, 11, 12, 13, 14, 15, 16, 17, 18, 19, 20, 21, 22, 23, 24, 25, 26, 27, 28, 29, 30, 31, 32, 33, 34, 35, 36], [36])])
def salchowlaw09_LexerSpells.B12 : List Nat := [0, 1, 3, 7, 15, 31, 63, 63, 191, 511, 1023, 2047, 4095, 4095, 16383, 32767, 65535, 131071, 262143, 524287, 1048575, 2097151, 4194303, 8388607, 16777215, 4194303, 67108863, 134217727, 268435455, 536870911, 1073741823, 2147483647, 4294967295, 536870911, 9126805503, 34359738367, 68719476735, 137438953471]
theorem salchowlaw09_LexerSpells.tab12 : rtab .any (opsOf Tryd.f9 12) = salchowlaw09_LexerSpells.T12 := by kernel_rfl
theorem salchowlaw09_LexerSpells.bits12 : waitsOk salchowlaw09_LexerSpells.T12.2 salchowlaw09_LexerSpells.B12 = true := by kernel_rfl
set_option maxHeartbeats 8000000 in
set_option maxRecDepth 100000 in
theorem salchowlaw09_LexerSpells.calls (k : Nat) (a0_0 : Int) (a0_1 : ByteArray) (a0_2 : Int) (a0_3 : Int) (r : Bool) (w : World) (hG : Gl w) (h : salchowlaw09_LexerSpells.f k a0_0 a0_1 a0_2 a0_3 = some r) :
    Calls Tryd.prog 9 #[.agg #[.int .i64 a0_0, .string a0_1, .int .i64 a0_2, .int .i64 a0_3]] w fun e w' => e = .returned (.bool r) ∧ Below w.heap.size w w' := by
  have hu46 := Tryd.underlying46
  have hu26 := Tryd.underlying26
  have HB := Aside0.mk (Below.refl w.heap.size w)
  have H : (if (a0_1.size : Int) > 100 then ((salchowlaw09_awake.f k).bind fun t217 => (some t217)) else ((lexer_Spell.f k a0_0 a0_1 a0_2 a0_3).bind fun bt218 => ((lexer_Valid.f k a0_0 a0_1 a0_2 a0_3).bind fun t220 => ((salchowref09_Valid.f k a0_0 a0_1 a0_2 a0_3).bind fun t221 => (if (t220 != t221) = true then (none) else ((salchowref09_Valid.f k a0_0 a0_1 a0_2 a0_3).bind fun t222 => (if t222 = true then ((lexer_Lex.f k bt218.1).bind fun bt224 => (if a0_0 = 5 then ((salchowlaw09_awake.f k).bind fun t230 => (if t230 = true then (if bt218.2 = 0 then (some (bt218.1.toList == ([] : List UInt8))) else (none)) else (none))) else ((salchowlaw09_awake.f k).bind fun t231 => (if t231 = true then (if bt218.2 = 0 then ((salchowref09_Spell.f k a0_0 a0_1 a0_2 0).bind fun t232 => (if bt218.1.toList = t232.toList then (if (bt224.2.1 == 0 && (bt224.2.2 == 0)) = true then (if (bt224.1.length : Int) = 2 then (if 0 < (bt224.1.length : Int) then (if (((rd_T46 bt224.1 0).f0) == a0_0 && ((((rd_T46 bt224.1 0).f1).toList) == a0_1.toList && (((rd_T46 bt224.1 0).f2) == a0_2 && (((rd_T46 bt224.1 0).f3) == 0)))) = true then (if 1 < (bt224.1.length : Int) then (some (((rd_T46 bt224.1 1).f3) == (bt218.1.size : Int))) else (none)) else (none)) else (none)) else (none)) else (none)) else (none))) else (none)) else (none))))) else ((salchowlaw09_awake.f k).bind fun t223 => (if t223 = true then (if bt218.2 = 1 then (some (bt218.1.toList == ([] : List UInt8))) else (none)) else (none)))))))))) = some r := h
  clear h
  by_cases c2 : (a0_1.size : Int) > 100
  · rw [if_pos c2] at H
    have c2b0 : decide (100 < (a0_1.size : Int)) = true := decide_eq_true c2
    have c2b1 : decide (100 < a0_1.size) = true := decide_eq_true (by omega)
    clear c2
    replace H := Option.bind_eq_some_iff.mp H
    obtain ⟨t217, A30, H⟩ := H
    replace H : (some t217) = some r := H
    have A3 := Aside0.mk A30
    clear A30
    obtain rfl := Option.some.inj H
    go_enter Tryd.func9, Tryd.ntmps9
    go_wp2_with (first | ((with_reducible refine gate_dst (N := 1) rfl ?_); (try (refine gate_guard (by rfl) ?_; dsimp only)); refine box_event ?hg (N := 1) ?hd (cs := #[.int .i64 a0_0, .string a0_1, .int .i64 a0_2, .int .i64 a0_3]) (t := 46) ?hr ?_; (case hd => rfl); (case hg => rfl); (case hr => first | (go_simp; done) | (go_simp; rfl)); intro gb216 hg w4 hbox hb; have n0_ := Aside0.mk (below_step (bl_ HB.out) hb); have n1_ := Aside0.mk (hbox); have n2_ := Aside0.mk ((by rw [hg]; exact (below_size (bl_ HB.out)) : w.heap.size ≤ gb216)); have n3_ := Aside0.mk ((by rw [hg]; exact (below_size (bl_ HB.out)) : w.heap.size ≤ gb216)); clear HB; have HB := n0_; have BK216 := n1_; have GW216 := n2_; have GE216 := n3_; clear n0_ n1_ n2_ n3_; clear hb hbox hg; have hcz5_0 : w4.cell? ⟨gb216, 0, none⟩ = some (.int .i64 a0_0) := (blk_cell BK216.out 0).trans rfl; have hcz5_1 : w4.cell? ⟨gb216, 1, none⟩ = some (.string a0_1) := (blk_cell BK216.out 1).trans rfl; have hcz5_2 : w4.cell? ⟨gb216, 2, none⟩ = some (.int .i64 a0_2) := (blk_cell BK216.out 2).trans rfl; have hcz5_3 : w4.cell? ⟨gb216, 3, none⟩ = some (.int .i64 a0_3) := (blk_cell BK216.out 3).trans rfl; have hfz5_0 := blk_frozen BK216.out 0; have hfz5_1 := blk_frozen BK216.out 1; have hfz5_2 := blk_frozen BK216.out 2; have hfz5_3 := blk_frozen BK216.out 3) | ((with_reducible refine gate_callee (f := 32) rfl ?_); refine goesL_ (some 11) rfl rfl Tryd.func32 (by kernel_rfl) rfl #[] rfl (by (try simp only [List.map_toArray, List.map_cons, List.map_nil]); first | done | rfl | (simp only [List.length_drop, List.length_take]; rfl)) ?_; (with_reducible refine (salchowlaw09_awake.calls k  t217 _ ?side1 A3.out).mono ?_); (case side1 => exact Gl.below hG (bl1_ HB.out GE216.out)); rintro e w6 ⟨rfl, hb⟩; refine ⟨_, rfl, ?_⟩; have n0_ := Aside0.mk (blk_below (g := gb216) (o := .cells #[.int .i64 a0_0, .string a0_1, .int .i64 a0_2, .int .i64 a0_3] 46 (0, 0)) (bk_ BK216.out) hb); have n1_ := Aside0.mk (below_step (bl1_ HB.out GE216.out) hb); clear BK216; clear HB; have BK216 := n0_; have HB := n1_; clear n0_ n1_; (try clear hb); (try clear hb2); (try clear hk); (try clear hi)))
    go_ret
    exact ⟨er_, bl1_ HB.out GE216.out⟩
  · rw [if_neg c2] at H
    have c2b0 : decide (100 < (a0_1.size : Int)) = false := decide_eq_false c2
    have c2b1 : decide (100 < a0_1.size) = false := decide_eq_false (by omega)
    clear c2
    replace H := Option.bind_eq_some_iff.mp H
    obtain ⟨⟨t218, t219⟩, A70, H⟩ := H
    replace H : ((lexer_Valid.f k a0_0 a0_1 a0_2 a0_3).bind fun t220 => ((salchowref09_Valid.f k a0_0 a0_1 a0_2 a0_3).bind fun t221 => (if (t220 != t221) = true then (none) else ((salchowref09_Valid.f k a0_0 a0_1 a0_2 a0_3).bind fun t222 => (if t222 = true then ((lexer_Lex.f k t218).bind fun bt224 => (if a0_0 = 5 then ((salchowlaw09_awake.f k).bind fun t230 => (if t230 = true then (if t219 = 0 then (some (t218.toList == ([] : List UInt8))) else (none)) else (none))) else ((salchowlaw09_awake.f k).bind fun t231 => (if t231 = true then (if t219 = 0 then ((salchowref09_Spell.f k a0_0 a0_1 a0_2 0).bind fun t232 => (if t218.toList = t232.toList then (if (bt224.2.1 == 0 && (bt224.2.2 == 0)) = true then (if (bt224.1.length : Int) = 2 then (if 0 < (bt224.1.length : Int) then (if (((rd_T46 bt224.1 0).f0) == a0_0 && ((((rd_T46 bt224.1 0).f1).toList) == a0_1.toList && (((rd_T46 bt224.1 0).f2) == a0_2 && (((rd_T46 bt224.1 0).f3) == 0)))) = true then (if 1 < (bt224.1.length : Int) then (some (((rd_T46 bt224.1 1).f3) == (t218.size : Int))) else (none)) else (none)) else (none)) else (none)) else (none)) else (none))) else (none)) else (none))))) else ((salchowlaw09_awake.f k).bind fun t223 => (if t223 = true then (if t219 = 1 then (some (t218.toList == ([] : List UInt8))) else (none)) else (none)))))))) = some r := H
    have A7 := Aside0.mk A70
    clear A70
    replace H := Option.bind_eq_some_iff.mp H
    obtain ⟨t220, A80, H⟩ := H
    replace H : ((salchowref09_Valid.f k a0_0 a0_1 a0_2 a0_3).bind fun t221 => (if (t220 != t221) = true then (none) else ((salchowref09_Valid.f k a0_0 a0_1 a0_2 a0_3).bind fun t222 => (if t222 = true then ((lexer_Lex.f k t218).bind fun bt224 => (if a0_0 = 5 then ((salchowlaw09_awake.f k).bind fun t230 => (if t230 = true then (if t219 = 0 then (some (t218.toList == ([] : List UInt8))) else (none)) else (none))) else ((salchowlaw09_awake.f k).bind fun t231 => (if t231 = true then (if t219 = 0 then ((salchowref09_Spell.f k a0_0 a0_1 a0_2 0).bind fun t232 => (if t218.toList = t232.toList then (if (bt224.2.1 == 0 && (bt224.2.2 == 0)) = true then (if (bt224.1.length : Int) = 2 then (if 0 < (bt224.1.length : Int) then (if (((rd_T46 bt224.1 0).f0) == a0_0 && ((((rd_T46 bt224.1 0).f1).toList) == a0_1.toList && (((rd_T46 bt224.1 0).f2) == a0_2 && (((rd_T46 bt224.1 0).f3) == 0)))) = true then (if 1 < (bt224.1.length : Int) then (some (((rd_T46 bt224.1 1).f3) == (t218.size : Int))) else (none)) else (none)) else (none)) else (none)) else (none)) else (none))) else (none)) else (none))))) else ((salchowlaw09_awake.f k).bind fun t223 => (if t223 = true then (if t219 = 1 then (some (t218.toList == ([] : List UInt8))) else (none)) else (none))))))) = some r := H
    have A8 := Aside0.mk A80
    clear A80
    replace H := Option.bind_eq_some_iff.mp H
    obtain ⟨t221, A90, H⟩ := H
    replace H : (if (t220 != t221) = true then (none) else ((salchowref09_Valid.f k a0_0 a0_1 a0_2 a0_3).bind fun t222 => (if t222 = true then ((lexer_Lex.f k t218).bind fun bt224 => (if a0_0 = 5 then ((salchowlaw09_awake.f k).bind fun t230 => (if t230 = true then (if t219 = 0 then (some (t218.toList == ([] : List UInt8))) else (none)) else (none))) else ((salchowlaw09_awake.f k).bind fun t231 => (if t231 = true then (if t219 = 0 then ((salchowref09_Spell.f k a0_0 a0_1 a0_2 0).bind fun t232 => (if t218.toList = t232.toList then (if (bt224.2.1 == 0 && (bt224.2.2 == 0)) = true then (if (bt224.1.length : Int) = 2 then (if 0 < (bt224.1.length : Int) then (if (((rd_T46 bt224.1 0).f0) == a0_0 && ((((rd_T46 bt224.1 0).f1).toList) == a0_1.toList && (((rd_T46 bt224.1 0).f2) == a0_2 && (((rd_T46 bt224.1 0).f3) == 0)))) = true then (if 1 < (bt224.1.length : Int) then (some (((rd_T46 bt224.1 1).f3) == (t218.size : Int))) else (none)) else (none)) else (none)) else (none)) else (none)) else (none))) else (none)) else (none))))) else ((salchowlaw09_awake.f k).bind fun t223 => (if t223 = true then (if t219 = 1 then (some (t218.toList == ([] : List UInt8))) else (none)) else (none)))))) = some r := H
    have A9 := Aside0.mk A90
    clear A90
    by_cases c10 : (t220 != t221) = true
    · rw [if_pos c10] at H
      exact absurd H (by simp)
    · rw [if_neg c10] at H
      have c10b0 : (t220 != t221) = false := by simpa using c10
      (try (have c10b1 : decide (t220 = t221) = true := by simpa using c10))
      (try (have c10b2 : (t220 == t221) = true := by simpa using c10))
      clear c10
      replace H := Option.bind_eq_some_iff.mp H
      obtain ⟨t222, A110, H⟩ := H
      replace H : (if t222 = true then ((lexer_Lex.f k t218).bind fun bt224 => (if a0_0 = 5 then ((salchowlaw09_awake.f k).bind fun t230 => (if t230 = true then (if t219 = 0 then (some (t218.toList == ([] : List UInt8))) else (none)) else (none))) else ((salchowlaw09_awake.f k).bind fun t231 => (if t231 = true then (if t219 = 0 then ((salchowref09_Spell.f k a0_0 a0_1 a0_2 0).bind fun t232 => (if t218.toList = t232.toList then (if (bt224.2.1 == 0 && (bt224.2.2 == 0)) = true then (if (bt224.1.length : Int) = 2 then (if 0 < (bt224.1.length : Int) then (if (((rd_T46 bt224.1 0).f0) == a0_0 && ((((rd_T46 bt224.1 0).f1).toList) == a0_1.toList && (((rd_T46 bt224.1 0).f2) == a0_2 && (((rd_T46 bt224.1 0).f3) == 0)))) = true then (if 1 < (bt224.1.length : Int) then (some (((rd_T46 bt224.1 1).f3) == (t218.size : Int))) else (none)) else (none)) else (none)) else (none)) else (none)) else (none))) else (none)) else (none))))) else ((salchowlaw09_awake.f k).bind fun t223 => (if t223 = true then (if t219 = 1 then (some (t218.toList == ([] : List UInt8))) else (none)) else (none)))) = some r := H
      have A11 := Aside0.mk A110
      clear A110
      by_cases c12 : t222 = true
      · subst c12
        have H1 : ((lexer_Lex.f k t218).bind fun bt224 => (if a0_0 = 5 then ((salchowlaw09_awake.f k).bind fun t230 => (if t230 = true then (if t219 = 0 then (some (t218.toList == ([] : List UInt8))) else (none)) else (none))) else ((salchowlaw09_awake.f k).bind fun t231 => (if t231 = true then (if t219 = 0 then ((salchowref09_Spell.f k a0_0 a0_1 a0_2 0).bind fun t232 => (if t218.toList = t232.toList then (if (bt224.2.1 == 0 && (bt224.2.2 == 0)) = true then (if (bt224.1.length : Int) = 2 then (if 0 < (bt224.1.length : Int) then (if (((rd_T46 bt224.1 0).f0) == a0_0 && ((((rd_T46 bt224.1 0).f1).toList) == a0_1.toList && (((rd_T46 bt224.1 0).f2) == a0_2 && (((rd_T46 bt224.1 0).f3) == 0)))) = true then (if 1 < (bt224.1.length : Int) then (some (((rd_T46 bt224.1 1).f3) == (t218.size : Int))) else (none)) else (none)) else (none)) else (none)) else (none)) else (none))) else (none)) else (none))))) = some r := by rw [if_pos rfl] at H; exact H
        clear H
        have H := H1
        clear H1
        replace H := Option.bind_eq_some_iff.mp H
        obtain ⟨⟨t224, t227, t228⟩, A130, H⟩ := H
        replace H : (if a0_0 = 5 then ((salchowlaw09_awake.f k).bind fun t230 => (if t230 = true then (if t219 = 0 then (some (t218.toList == ([] : List UInt8))) else (none)) else (none))) else ((salchowlaw09_awake.f k).bind fun t231 => (if t231 = true then (if t219 = 0 then ((salchowref09_Spell.f k a0_0 a0_1 a0_2 0).bind fun t232 => (if t218.toList = t232.toList then (if (t227 == 0 && (t228 == 0)) = true then (if (t224.length : Int) = 2 then (if 0 < (t224.length : Int) then (if (((rd_T46 t224 0).f0) == a0_0 && ((((rd_T46 t224 0).f1).toList) == a0_1.toList && (((rd_T46 t224 0).f2) == a0_2 && (((rd_T46 t224 0).f3) == 0)))) = true then (if 1 < (t224.length : Int) then (some (((rd_T46 t224 1).f3) == (t218.size : Int))) else (none)) else (none)) else (none)) else (none)) else (none)) else (none))) else (none)) else (none)))) = some r := H
        have A13 := Aside0.mk A130
        clear A130
        by_cases c14 : a0_0 = 5
        · rw [if_pos c14] at H
          have c14b0 : (a0_0 == 5) = true := beq_iff_eq.mpr c14
          have c14b1 : (a0_0 != 5) = false := bne_eq_false_iff_eq.mpr c14
          clear c14
          replace H := Option.bind_eq_some_iff.mp H
          obtain ⟨t230, A150, H⟩ := H
          replace H : (if t230 = true then (if t219 = 0 then (some (t218.toList == ([] : List UInt8))) else (none)) else (none)) = some r := H
          have A15 := Aside0.mk A150
          clear A150
          by_cases c16 : t230 = true
          · subst c16
            have H1 : (if t219 = 0 then (some (t218.toList == ([] : List UInt8))) else (none)) = some r := by rw [if_pos rfl] at H; exact H
            clear H
            have H := H1
            clear H1
            by_cases c17 : t219 = 0
            · rw [if_pos c17] at H
              have c17b0 : (t219 == 0) = true := beq_iff_eq.mpr c17
              have c17b1 : (t219 != 0) = false := bne_eq_false_iff_eq.mpr c17
              clear c17
              obtain rfl := Option.some.inj H
              go_enter Tryd.func9, Tryd.ntmps9
              try go_wp2_with (first | ((with_reducible refine gate_dst (N := 1) rfl ?_); (try (refine gate_guard (by rfl) ?_; dsimp only)); refine box_event ?hg (N := 1) ?hd (cs := #[.int .i64 a0_0, .string a0_1, .int .i64 a0_2, .int .i64 a0_3]) (t := 46) ?hr ?_; (case hd => rfl); (case hg => rfl); (case hr => first | (go_simp; done) | (go_simp; rfl)); intro gb216 hg w18 hbox hb; have n0_ := Aside0.mk (below_step (bl_ HB.out) hb); have n1_ := Aside0.mk (hbox); have n2_ := Aside0.mk ((by rw [hg]; exact (below_size (bl_ HB.out)) : w.heap.size ≤ gb216)); have n3_ := Aside0.mk ((by rw [hg]; exact (below_size (bl_ HB.out)) : w.heap.size ≤ gb216)); clear HB; have HB := n0_; have BK216 := n1_; have GW216 := n2_; have GE216 := n3_; clear n0_ n1_ n2_ n3_; clear hb hbox hg; have hcz19_0 : w18.cell? ⟨gb216, 0, none⟩ = some (.int .i64 a0_0) := (blk_cell BK216.out 0).trans rfl; have hcz19_1 : w18.cell? ⟨gb216, 1, none⟩ = some (.string a0_1) := (blk_cell BK216.out 1).trans rfl; have hcz19_2 : w18.cell? ⟨gb216, 2, none⟩ = some (.int .i64 a0_2) := (blk_cell BK216.out 2).trans rfl; have hcz19_3 : w18.cell? ⟨gb216, 3, none⟩ = some (.int .i64 a0_3) := (blk_cell BK216.out 3).trans rfl; have hfz19_0 := blk_frozen BK216.out 0; have hfz19_1 := blk_frozen BK216.out 1; have hfz19_2 := blk_frozen BK216.out 2; have hfz19_3 := blk_frozen BK216.out 3) | ((with_reducible refine gate_callee (f := 35) rfl ?_); refine goesL_ (some 14) rfl rfl Tryd.func35 (by kernel_rfl) rfl #[.agg #[.int .i64 a0_0, .string a0_1, .int .i64 a0_2, .int .i64 a0_3]] rfl (by (try simp only [List.map_toArray, List.map_cons, List.map_nil]); first | done | rfl | (simp only [List.length_drop, List.length_take]; rfl)) ?_; (with_reducible refine (lexer_Spell.calls k a0_0 a0_1 a0_2 a0_3 t218 t219 _ ?side1 A7.out).mono ?_); (case side1 => exact Gl.below hG (bl1_ HB.out GE216.out)); rintro e w20 ⟨rfl, hb⟩; refine ⟨_, rfl, ?_⟩; have n0_ := Aside0.mk (blk_below (g := gb216) (o := .cells #[.int .i64 a0_0, .string a0_1, .int .i64 a0_2, .int .i64 a0_3] 46 (0, 0)) (bk_ BK216.out) hb); have n1_ := Aside0.mk (below_step (bl1_ HB.out GE216.out) hb); clear BK216; clear HB; have BK216 := n0_; have HB := n1_; clear n0_ n1_; (try clear hb); (try clear hb2); (try clear hk); (try clear hi)))
              have n0_ := Aside0.mk (blk_drew BK216.out)
              have n1_ := Aside0.mk (below_drew1 HB.out)
              clear BK216
              clear HB
              have BK216 := n0_
              have HB := n1_
              clear n0_ n1_
              refine start_ (n := 5) (S := fun w' => w'.cell? ⟨gb216, 0, none⟩ = some (.int .i64 a0_0) ∧ w'.cell? ⟨gb216, 1, none⟩ = some (.string a0_1) ∧ w'.cell? ⟨gb216, 2, none⟩ = some (.int .i64 a0_2) ∧ w'.cell? ⟨gb216, 3, none⟩ = some (.int .i64 a0_3)) (ds := []) #[false, false, false, false, false] (by kernel_rfl) rfl rfl ⟨(blk_cell BK216.out 0).trans rfl, (blk_cell BK216.out 1).trans rfl, (blk_cell BK216.out 2).trans rfl, (blk_cell BK216.out 3).trans rfl⟩ (fun hHeld => ?_)
              generalize w20.drew = w21 at BK216 HB hHeld ⊢
              refine take_ (i := 0) (N := some 17) (v := ?_) (a' := ?_) #[true, false, false, false, false] rfl rfl (by kernel_rfl) (fun _ _ _ h => h) (Or.inl ⟨by rfl, ?_⟩) hHeld ?_ ?_
              rotate_left
              · rintro w' ⟨s0, s1, s2, s3⟩
                go_simp
                with_reducible rfl
              rotate_left
              · simp only [Act.put, List.setIfInBounds_toArray, List.set_cons_zero, List.set_cons_succ, i64_w, i32_w]
                rfl
              refine take_ (i := 2) (N := some 19) (v := ?_) (a' := ?_) #[true, false, true, false, false] rfl rfl (by kernel_rfl) (fun _ _ _ h => h) (Or.inl ⟨by rfl, ?_⟩) hHeld ?_ ?_
              rotate_left
              · rintro w' ⟨s0, s1, s2, s3⟩
                go_simp
                with_reducible rfl
              rotate_left
              · simp only [Act.put, List.setIfInBounds_toArray, List.set_cons_zero, List.set_cons_succ, i64_w, i32_w]
                rfl
              refine one_ (i := 1) (N := some 18) #[true, true, true, false, false] rfl rfl (by kernel_rfl) (by decide) (fun K hK => ?_)
              refine goes_ Tryd.func36 (by kernel_rfl) rfl #[.agg #[.int .i64 a0_0, .string a0_1, .int .i64 a0_2, .int .i64 a0_3]] (by rfl) rfl rfl (by (try simp only [List.map_toArray, List.map_cons, List.map_nil]); first | done | rfl | (simp only [List.length_drop, List.length_take]; rfl)) ?_
              with_reducible refine (lexer_Valid.calls k a0_0 a0_1 a0_2 a0_3 t220 _ A8.out).mono ?_
              rintro e w22 ⟨rfl, hb⟩
              refine ⟨_, rfl, ?_⟩
              have n0_ := Aside0.mk (blk_below (g := gb216) (o := .cells #[.int .i64 a0_0, .string a0_1, .int .i64 a0_2, .int .i64 a0_3] 46 (0, 0)) (bk_ BK216.out) hb)
              have n1_ := Aside0.mk (below_step (bl1_ HB.out GE216.out) hb)
              clear BK216
              clear HB
              have BK216 := n0_
              have HB := n1_
              clear n0_ n1_
              (try clear hb)
              (try clear hb2)
              (try clear hk)
              (try clear hi)
              refine hK.out _ _ ⟨(blk_cell BK216.out 0).trans rfl, (blk_cell BK216.out 1).trans rfl, (blk_cell BK216.out 2).trans rfl, (blk_cell BK216.out 3).trans rfl⟩ (fun hHeld => ?_)
              clear hK K
              refine norm_ (a' := ?_) ?_ ?_
              rotate_left
              · show Act.put _ (some 18) _ = _
                simp only [Act.put, List.setIfInBounds_toArray, List.set_cons_zero, List.set_cons_succ, i64_w, i32_w]
                rfl
              refine one_ (i := 3) (N := some 20) #[true, true, true, true, false] rfl rfl (by kernel_rfl) (by decide) (fun K hK => ?_)
              refine goes_ Tryd.func37 (by kernel_rfl) rfl #[.agg #[.int .i64 a0_0, .string a0_1, .int .i64 a0_2, .int .i64 a0_3]] (by rfl) rfl rfl (by (try simp only [List.map_toArray, List.map_cons, List.map_nil]); first | done | rfl | (simp only [List.length_drop, List.length_take]; rfl)) ?_
              with_reducible refine (salchowref09_Valid.calls k a0_0 a0_1 a0_2 a0_3 t221 _ ?side1 A9.out).mono ?_
              (case side1 => exact Gl.below hG (bl1_ HB.out GE216.out))
              rintro e w23 ⟨rfl, hb⟩
              refine ⟨_, rfl, ?_⟩
              have n0_ := Aside0.mk (blk_below (g := gb216) (o := .cells #[.int .i64 a0_0, .string a0_1, .int .i64 a0_2, .int .i64 a0_3] 46 (0, 0)) (bk_ BK216.out) hb)
              have n1_ := Aside0.mk (below_step (bl1_ HB.out GE216.out) hb)
              clear BK216
              clear HB
              have BK216 := n0_
              have HB := n1_
              clear n0_ n1_
              (try clear hb)
              (try clear hb2)
              (try clear hk)
              (try clear hi)
              refine hK.out _ _ ⟨(blk_cell BK216.out 0).trans rfl, (blk_cell BK216.out 1).trans rfl, (blk_cell BK216.out 2).trans rfl, (blk_cell BK216.out 3).trans rfl⟩ (fun hHeld => ?_)
              clear hK K
              refine norm_ (a' := ?_) ?_ ?_
              rotate_left
              · show Act.put _ (some 20) _ = _
                simp only [Act.put, List.setIfInBounds_toArray, List.set_cons_zero, List.set_cons_succ, i64_w, i32_w]
                rfl
              refine pure_ (i := 4) (N := some 21) (v := ?_) (a' := ?_) #[true, true, true, true, true] rfl rfl (by kernel_rfl) (fun _ _ _ h => h) (Or.inl ⟨by rfl, ?_⟩) ?_ ?_
              rotate_left
              · intro w'
                go_simp
                with_reducible rfl
              rotate_left
              · simp only [Act.put, List.setIfInBounds_toArray, List.set_cons_zero, List.set_cons_succ, i64_w, i32_w]
                rfl
              refine done_ (by kernel_rfl) ?_
              have hcz24_0 : w23.cell? ⟨gb216, 0, none⟩ = some (.int .i64 a0_0) := (blk_cell BK216.out 0).trans rfl
              have hcz24_1 : w23.cell? ⟨gb216, 1, none⟩ = some (.string a0_1) := (blk_cell BK216.out 1).trans rfl
              have hcz24_2 : w23.cell? ⟨gb216, 2, none⟩ = some (.int .i64 a0_2) := (blk_cell BK216.out 2).trans rfl
              have hcz24_3 : w23.cell? ⟨gb216, 3, none⟩ = some (.int .i64 a0_3) := (blk_cell BK216.out 3).trans rfl
              have hfz24_0 := blk_frozen BK216.out 0
              have hfz24_1 := blk_frozen BK216.out 1
              have hfz24_2 := blk_frozen BK216.out 2
              have hfz24_3 := blk_frozen BK216.out 3
              try go_wp2_with (first | ((with_reducible refine gate_callee (f := 37) rfl ?_); refine goesL_ (some 23) rfl rfl Tryd.func37 (by kernel_rfl) rfl #[.agg #[.int .i64 a0_0, .string a0_1, .int .i64 a0_2, .int .i64 a0_3]] rfl (by (try simp only [List.map_toArray, List.map_cons, List.map_nil]); first | done | rfl | (simp only [List.length_drop, List.length_take]; rfl)) ?_; (with_reducible refine (salchowref09_Valid.calls k a0_0 a0_1 a0_2 a0_3 true _ ?side1 A11.out).mono ?_); (case side1 => exact Gl.below hG (bl1_ HB.out GE216.out)); rintro e w25 ⟨rfl, hb⟩; refine ⟨_, rfl, ?_⟩; have n0_ := Aside0.mk (blk_below (g := gb216) (o := .cells #[.int .i64 a0_0, .string a0_1, .int .i64 a0_2, .int .i64 a0_3] 46 (0, 0)) (bk_ BK216.out) hb); have n1_ := Aside0.mk (below_step (bl1_ HB.out GE216.out) hb); clear BK216; clear HB; have BK216 := n0_; have HB := n1_; clear n0_ n1_; (try clear hb); (try clear hb2); (try clear hk); (try clear hi)) | ((with_reducible refine gate_callee (f := 25) rfl ?_); refine goesL_ (some 36) rfl rfl Tryd.func25 (by kernel_rfl) rfl #[.string t218] rfl (by (try simp only [List.map_toArray, List.map_cons, List.map_nil]); first | done | rfl | (simp only [List.length_drop, List.length_take]; rfl)) ?_; (with_reducible refine (lexer_Lex.calls k t218 t224 t227 t228 _ A13.out).mono ?_); rintro e w26 ⟨v225, rfl, ho0, hb⟩; refine ⟨_, rfl, ?_⟩; have n0_ := Aside0.mk (Kd.R_lower (Kd.R_newB ho0 (g := gb216) (o := .cells #[.int .i64 a0_0, .string a0_1, .int .i64 a0_2, .int .i64 a0_3] 46 (0, 0)) (bk_ BK216.out)) (below_size (bl1_ HB.out GE216.out))); have n1_ := Aside0.mk (blk_below (g := gb216) (o := .cells #[.int .i64 a0_0, .string a0_1, .int .i64 a0_2, .int .i64 a0_3] 46 (0, 0)) (bk_ BK216.out) hb); have n2_ := Aside0.mk (below_step (bl1_ HB.out GE216.out) hb); clear BK216; clear HB; have HO226 := n0_; have BK216 := n1_; have HB := n2_; clear n0_ n1_ n2_; (try clear hb); (try clear hb2); (try clear hk); (try clear hi); (try clear ho0)) | ((with_reducible refine gate_dst (N := 6) rfl ?_); (try (refine gate_guard (by rfl) ?_; dsimp only)); refine box_event ?hg (N := 6) ?hd (cs := #[.int .i64 0, .int .i64 0]) (t := 26) ?hr ?_; (case hd => rfl); (case hg => rfl); (case hr => first | (go_simp; done) | (go_simp; rfl)); intro gb229 hg w27 hbox hb; have n0_ := Aside0.mk (Kd.R_below (by (with_reducible repeat (first | apply Kd.R_alloc | apply Kd.R_drewN | apply Kd.R_drew)); exact HO226.out) hb); have n1_ := Aside0.mk (blk_below (g := gb216) (o := .cells #[.int .i64 a0_0, .string a0_1, .int .i64 a0_2, .int .i64 a0_3] 46 (0, 0)) (bk_ BK216.out) hb); have n2_ := Aside0.mk (below_step (bl1_ HB.out GE216.out) hb); have n3_ := Aside0.mk (hbox); have n4_ := Aside0.mk ((by rw [hg]; exact (below_size (bl1_ HB.out GE216.out)) : w.heap.size ≤ gb229)); have n5_ := Aside0.mk ((by rw [hg]; exact (below_size (bl1_ HB.out GE216.out)) : w.heap.size ≤ gb229)); have n6_ := Aside0.mk ((by rw [hg]; exact Nat.ne_of_lt (blk_lt (g := gb216) (o := .cells #[.int .i64 a0_0, .string a0_1, .int .i64 a0_2, .int .i64 a0_3] 46 (0, 0)) (bk_ BK216.out)) : gb216 ≠ gb229)); have n7_ := Aside0.mk ((by rw [hg]; exact Nat.ne_of_gt (blk_lt (g := gb216) (o := .cells #[.int .i64 a0_0, .string a0_1, .int .i64 a0_2, .int .i64 a0_3] 46 (0, 0)) (bk_ BK216.out)) : gb229 ≠ gb216)); clear HO226; clear BK216; clear HB; have HO226 := n0_; have BK216 := n1_; have HB := n2_; have BK229 := n3_; have GW229 := n4_; have GE229 := n5_; have NB216_229 := n6_; have NB229_216 := n7_; clear n0_ n1_ n2_ n3_ n4_ n5_ n6_ n7_; clear hb hbox hg; have hnb28 := NB229_216.out; have hnc28 := NB216_229.out; have hcz29_0 : w27.cell? ⟨gb229, 0, none⟩ = some (.int .i64 0) := (blk_cell BK229.out 0).trans rfl; have hcz29_1 : w27.cell? ⟨gb229, 1, none⟩ = some (.int .i64 0) := (blk_cell BK229.out 1).trans rfl; have hfz29_0 := blk_frozen BK229.out 0; have hfz29_1 := blk_frozen BK229.out 1; have hcz30_0 : w27.cell? ⟨gb216, 0, none⟩ = some (.int .i64 a0_0) := (blk_cell BK216.out 0).trans rfl; have hcz30_1 : w27.cell? ⟨gb216, 1, none⟩ = some (.string a0_1) := (blk_cell BK216.out 1).trans rfl; have hcz30_2 : w27.cell? ⟨gb216, 2, none⟩ = some (.int .i64 a0_2) := (blk_cell BK216.out 2).trans rfl; have hcz30_3 : w27.cell? ⟨gb216, 3, none⟩ = some (.int .i64 a0_3) := (blk_cell BK216.out 3).trans rfl; have hfz30_0 := blk_frozen BK216.out 0; have hfz30_1 := blk_frozen BK216.out 1; have hfz30_2 := blk_frozen BK216.out 2; have hfz30_3 := blk_frozen BK216.out 3) | ((with_reducible refine gate_callee (f := 32) rfl ?_); refine goesL_ (some 43) rfl rfl Tryd.func32 (by kernel_rfl) rfl #[] rfl (by (try simp only [List.map_toArray, List.map_cons, List.map_nil]); first | done | rfl | (simp only [List.length_drop, List.length_take]; rfl)) ?_; (with_reducible refine (salchowlaw09_awake.calls k  true _ ?side1 A15.out).mono ?_); (case side1 => exact Gl.below hG (bl2_ HB.out GE216.out GE229.out)); rintro e w31 ⟨rfl, hb⟩; refine ⟨_, rfl, ?_⟩; have n0_ := Aside0.mk (Kd.R_below (by (with_reducible repeat (first | apply Kd.R_alloc | apply Kd.R_drewN | apply Kd.R_drew)); exact (Kd.R_mono (Kd.R_mono (Kd.R_far (p := ⟨gb216, 3, none⟩) (Kd.R_far (p := ⟨gb229, 1, none⟩) (Kd.R_far (p := ⟨gb229, 0, none⟩) (Kd.R_mono (Kd.R_types HO226.out BK229.out (by decide)) (fun k_ hk => (⟨hk, hk.1.2⟩ : _ ∧ k_ ≠ gb216))) (fun _ hk => hk.1.2) (.int .i64 t227)) (fun _ hk => hk.1.2) (.int .i64 t228)) (fun _ hk => hk.2) (.int .i64 0)) (fun _ h_ => h_.1)) (fun _ h_ => h_.1))) hb); have n1_ := Aside0.mk (blk_below (g := gb216) (o := .cells #[.int .i64 a0_0, .string a0_1, .int .i64 a0_2, .int .i64 0] 46 (0, 0)) (by (with_reducible repeat (first | refine blk_drewN ?_ _ | refine blk_drew ?_ | refine blk_alloc ?_ _)); refine blk_put (cs := #[.int .i64 a0_0, .string a0_1, .int .i64 a0_2, .int .i64 a0_3]) ?_ 3 _ rfl; (with_reducible repeat (first | refine blk_drewN ?_ _ | refine blk_drew ?_ | refine blk_alloc ?_ _)); refine blk_far ?_ NB216_229.out _; (with_reducible repeat (first | refine blk_drewN ?_ _ | refine blk_drew ?_ | refine blk_alloc ?_ _)); refine blk_far ?_ NB216_229.out _; (with_reducible repeat (first | refine blk_drewN ?_ _ | refine blk_drew ?_ | refine blk_alloc ?_ _)); exact BK216.out) hb); have n2_ := Aside0.mk (blk_below (g := gb229) (o := .cells #[.int .i64 t227, .int .i64 t228] 26 (0, 0)) (by (with_reducible repeat (first | refine blk_drewN ?_ _ | refine blk_drew ?_ | refine blk_alloc ?_ _)); refine blk_far ?_ NB229_216.out _; (with_reducible repeat (first | refine blk_drewN ?_ _ | refine blk_drew ?_ | refine blk_alloc ?_ _)); refine blk_put (cs := #[.int .i64 t227, .int .i64 0]) ?_ 1 _ rfl; (with_reducible repeat (first | refine blk_drewN ?_ _ | refine blk_drew ?_ | refine blk_alloc ?_ _)); refine blk_put (cs := #[.int .i64 0, .int .i64 0]) ?_ 0 _ rfl; (with_reducible repeat (first | refine blk_drewN ?_ _ | refine blk_drew ?_ | refine blk_alloc ?_ _)); exact BK229.out) hb); have n3_ := Aside0.mk (below_step (bl2_ HB.out GE216.out GE229.out) hb); clear HO226; clear BK216; clear BK229; clear HB; have HO226 := n0_; have BK216 := n1_; have BK229 := n2_; have HB := n3_; clear n0_ n1_ n2_ n3_; (try clear hb); (try clear hb2); (try clear hk); (try clear hi)))
              go_ret
              exact ⟨er_, bl2_ HB.out GE216.out GE229.out⟩
            · rw [if_neg c17] at H
              exact absurd H (by simp)
          · replace c16 := Bool.eq_false_iff.mpr c16
            subst c16
            have H1 : (none) = some r := by rw [if_neg (show ¬ (false = true) by decide)] at H; exact H
            clear H
            have H := H1
            clear H1
            exact absurd H (by simp)
        · rw [if_neg c14] at H
          have c14b0 : (a0_0 == 5) = false := beq_eq_false_iff_ne.mpr c14
          have c14b1 : (a0_0 != 5) = true := bne_iff_ne.mpr c14
          replace H := Option.bind_eq_some_iff.mp H
          obtain ⟨t231, A320, H⟩ := H
          replace H : (if t231 = true then (if t219 = 0 then ((salchowref09_Spell.f k a0_0 a0_1 a0_2 0).bind fun t232 => (if t218.toList = t232.toList then (if (t227 == 0 && (t228 == 0)) = true then (if (t224.length : Int) = 2 then (if 0 < (t224.length : Int) then (if (((rd_T46 t224 0).f0) == a0_0 && ((((rd_T46 t224 0).f1).toList) == a0_1.toList && (((rd_T46 t224 0).f2) == a0_2 && (((rd_T46 t224 0).f3) == 0)))) = true then (if 1 < (t224.length : Int) then (some (((rd_T46 t224 1).f3) == (t218.size : Int))) else (none)) else (none)) else (none)) else (none)) else (none)) else (none))) else (none)) else (none)) = some r := H
          have A32 := Aside0.mk A320
          clear A320
          by_cases c33 : t231 = true
          · subst c33
            have H1 : (if t219 = 0 then ((salchowref09_Spell.f k a0_0 a0_1 a0_2 0).bind fun t232 => (if t218.toList = t232.toList then (if (t227 == 0 && (t228 == 0)) = true then (if (t224.length : Int) = 2 then (if 0 < (t224.length : Int) then (if (((rd_T46 t224 0).f0) == a0_0 && ((((rd_T46 t224 0).f1).toList) == a0_1.toList && (((rd_T46 t224 0).f2) == a0_2 && (((rd_T46 t224 0).f3) == 0)))) = true then (if 1 < (t224.length : Int) then (some (((rd_T46 t224 1).f3) == (t218.size : Int))) else (none)) else (none)) else (none)) else (none)) else (none)) else (none))) else (none)) = some r := by rw [if_pos rfl] at H; exact H
            clear H
            have H := H1
            clear H1
            by_cases c34 : t219 = 0
            · rw [if_pos c34] at H
              have c34b0 : (t219 == 0) = true := beq_iff_eq.mpr c34
              have c34b1 : (t219 != 0) = false := bne_eq_false_iff_eq.mpr c34
              clear c34
              replace H := Option.bind_eq_some_iff.mp H
              obtain ⟨t232, A350, H⟩ := H
              replace H : (if t218.toList = t232.toList then (if (t227 == 0 && (t228 == 0)) = true then (if (t224.length : Int) = 2 then (if 0 < (t224.length : Int) then (if (((rd_T46 t224 0).f0) == a0_0 && ((((rd_T46 t224 0).f1).toList) == a0_1.toList && (((rd_T46 t224 0).f2) == a0_2 && (((rd_T46 t224 0).f3) == 0)))) = true then (if 1 < (t224.length : Int) then (some (((rd_T46 t224 1).f3) == (t218.size : Int))) else (none)) else (none)) else (none)) else (none)) else (none)) else (none)) = some r := H
              have A35 := Aside0.mk A350
              clear A350
              by_cases c36 : t218.toList = t232.toList
              · rw [if_pos c36] at H
                have c36b0 : (t218.toList == t232.toList) = true := beq_iff_eq.mpr c36
                have c36b1 : (t218.toList != t232.toList) = false := bne_eq_false_iff_eq.mpr c36
                clear c36
                by_cases c37 : (t227 == 0 && (t228 == 0)) = true
                · rw [if_pos c37] at H
                  have c37b0 : (t227 == 0 && (t228 == 0)) = true := c37
                  (try (have c37b1 : decide (t227 = 0 && (t228 == 0)) = true := by simpa using c37))
                  (try (have c37b2 : (t227 == 0 && (t228 == 0)) = true := by simpa using c37))
                  clear c37
                  by_cases c38 : (t224.length : Int) = 2
                  · rw [if_pos c38] at H
                    have c38b0 : ((t224.length : Int) == 2) = true := beq_iff_eq.mpr c38
                    have c38b1 : ((t224.length : Int) != 2) = false := bne_eq_false_iff_eq.mpr c38
                    clear c38
                    by_cases c39 : 0 < (t224.length : Int)
                    · rw [if_pos c39] at H
                      have c39b0 : decide (0 < (t224.length : Int)) = true := decide_eq_true c39
                      have c39b1 : decide (0 < t224.length) = true := decide_eq_true (by omega)
                      clear c39
                      by_cases c40 : (((rd_T46 t224 0).f0) == a0_0 && ((((rd_T46 t224 0).f1).toList) == a0_1.toList && (((rd_T46 t224 0).f2) == a0_2 && (((rd_T46 t224 0).f3) == 0)))) = true
                      · rw [if_pos c40] at H
                        have c40b0 : (((rd_T46 t224 0).f0) == a0_0 && ((((rd_T46 t224 0).f1).toList) == a0_1.toList && (((rd_T46 t224 0).f2) == a0_2 && (((rd_T46 t224 0).f3) == 0)))) = true := c40
                        (try (have c40b1 : decide (((rd_T46 t224 0).f0) = a0_0 && ((((rd_T46 t224 0).f1).toList) == a0_1.toList && (((rd_T46 t224 0).f2) == a0_2 && (((rd_T46 t224 0).f3) == 0)))) = true := by simpa using c40))
                        (try (have c40b2 : (((rd_T46 t224 0).f0) == a0_0 && ((((rd_T46 t224 0).f1).toList) == a0_1.toList && (((rd_T46 t224 0).f2) == a0_2 && (((rd_T46 t224 0).f3) == 0)))) = true := by simpa using c40))
                        clear c40
                        by_cases c41 : 1 < (t224.length : Int)
                        · rw [if_pos c41] at H
                          have c41b0 : decide (1 < (t224.length : Int)) = true := decide_eq_true c41
                          have c41b1 : decide (1 < t224.length) = true := decide_eq_true (by omega)
                          clear c41
                          obtain rfl := Option.some.inj H
                          go_enter Tryd.func9, Tryd.ntmps9
                          try go_wp2_with (first | ((with_reducible refine gate_dst (N := 1) rfl ?_); (try (refine gate_guard (by rfl) ?_; dsimp only)); refine box_event ?hg (N := 1) ?hd (cs := #[.int .i64 a0_0, .string a0_1, .int .i64 a0_2, .int .i64 a0_3]) (t := 46) ?hr ?_; (case hd => rfl); (case hg => rfl); (case hr => first | (go_simp; done) | (go_simp; rfl)); intro gb216 hg w42 hbox hb; have n0_ := Aside0.mk (below_step (bl_ HB.out) hb); have n1_ := Aside0.mk (hbox); have n2_ := Aside0.mk ((by rw [hg]; exact (below_size (bl_ HB.out)) : w.heap.size ≤ gb216)); have n3_ := Aside0.mk ((by rw [hg]; exact (below_size (bl_ HB.out)) : w.heap.size ≤ gb216)); clear HB; have HB := n0_; have BK216 := n1_; have GW216 := n2_; have GE216 := n3_; clear n0_ n1_ n2_ n3_; clear hb hbox hg; have hcz43_0 : w42.cell? ⟨gb216, 0, none⟩ = some (.int .i64 a0_0) := (blk_cell BK216.out 0).trans rfl; have hcz43_1 : w42.cell? ⟨gb216, 1, none⟩ = some (.string a0_1) := (blk_cell BK216.out 1).trans rfl; have hcz43_2 : w42.cell? ⟨gb216, 2, none⟩ = some (.int .i64 a0_2) := (blk_cell BK216.out 2).trans rfl; have hcz43_3 : w42.cell? ⟨gb216, 3, none⟩ = some (.int .i64 a0_3) := (blk_cell BK216.out 3).trans rfl; have hfz43_0 := blk_frozen BK216.out 0; have hfz43_1 := blk_frozen BK216.out 1; have hfz43_2 := blk_frozen BK216.out 2; have hfz43_3 := blk_frozen BK216.out 3) | ((with_reducible refine gate_callee (f := 35) rfl ?_); refine goesL_ (some 14) rfl rfl Tryd.func35 (by kernel_rfl) rfl #[.agg #[.int .i64 a0_0, .string a0_1, .int .i64 a0_2, .int .i64 a0_3]] rfl (by (try simp only [List.map_toArray, List.map_cons, List.map_nil]); first | done | rfl | (simp only [List.length_drop, List.length_take]; rfl)) ?_; (with_reducible refine (lexer_Spell.calls k a0_0 a0_1 a0_2 a0_3 t218 t219 _ ?side1 A7.out).mono ?_); (case side1 => exact Gl.below hG (bl1_ HB.out GE216.out)); rintro e w44 ⟨rfl, hb⟩; refine ⟨_, rfl, ?_⟩; have n0_ := Aside0.mk (blk_below (g := gb216) (o := .cells #[.int .i64 a0_0, .string a0_1, .int .i64 a0_2, .int .i64 a0_3] 46 (0, 0)) (bk_ BK216.out) hb); have n1_ := Aside0.mk (below_step (bl1_ HB.out GE216.out) hb); clear BK216; clear HB; have BK216 := n0_; have HB := n1_; clear n0_ n1_; (try clear hb); (try clear hb2); (try clear hk); (try clear hi)))
                          have n0_ := Aside0.mk (blk_drew BK216.out)
                          have n1_ := Aside0.mk (below_drew1 HB.out)
                          clear BK216
                          clear HB
                          have BK216 := n0_
                          have HB := n1_
                          clear n0_ n1_
                          refine start_ (n := 5) (S := fun w' => w'.cell? ⟨gb216, 0, none⟩ = some (.int .i64 a0_0) ∧ w'.cell? ⟨gb216, 1, none⟩ = some (.string a0_1) ∧ w'.cell? ⟨gb216, 2, none⟩ = some (.int .i64 a0_2) ∧ w'.cell? ⟨gb216, 3, none⟩ = some (.int .i64 a0_3)) (ds := []) #[false, false, false, false, false] (by kernel_rfl) rfl rfl ⟨(blk_cell BK216.out 0).trans rfl, (blk_cell BK216.out 1).trans rfl, (blk_cell BK216.out 2).trans rfl, (blk_cell BK216.out 3).trans rfl⟩ (fun hHeld => ?_)
                          generalize w44.drew = w45 at BK216 HB hHeld ⊢
                          refine take_ (i := 0) (N := some 17) (v := ?_) (a' := ?_) #[true, false, false, false, false] rfl rfl (by kernel_rfl) (fun _ _ _ h => h) (Or.inl ⟨by rfl, ?_⟩) hHeld ?_ ?_
                          rotate_left
                          · rintro w' ⟨s0, s1, s2, s3⟩
                            go_simp
                            with_reducible rfl
                          rotate_left
                          · simp only [Act.put, List.setIfInBounds_toArray, List.set_cons_zero, List.set_cons_succ, i64_w, i32_w]
                            rfl
                          refine take_ (i := 2) (N := some 19) (v := ?_) (a' := ?_) #[true, false, true, false, false] rfl rfl (by kernel_rfl) (fun _ _ _ h => h) (Or.inl ⟨by rfl, ?_⟩) hHeld ?_ ?_
                          rotate_left
                          · rintro w' ⟨s0, s1, s2, s3⟩
                            go_simp
                            with_reducible rfl
                          rotate_left
                          · simp only [Act.put, List.setIfInBounds_toArray, List.set_cons_zero, List.set_cons_succ, i64_w, i32_w]
                            rfl
                          refine one_ (i := 1) (N := some 18) #[true, true, true, false, false] rfl rfl (by kernel_rfl) (by decide) (fun K hK => ?_)
                          refine goes_ Tryd.func36 (by kernel_rfl) rfl #[.agg #[.int .i64 a0_0, .string a0_1, .int .i64 a0_2, .int .i64 a0_3]] (by rfl) rfl rfl (by (try simp only [List.map_toArray, List.map_cons, List.map_nil]); first | done | rfl | (simp only [List.length_drop, List.length_take]; rfl)) ?_
                          with_reducible refine (lexer_Valid.calls k a0_0 a0_1 a0_2 a0_3 t220 _ A8.out).mono ?_
                          rintro e w46 ⟨rfl, hb⟩
                          refine ⟨_, rfl, ?_⟩
                          have n0_ := Aside0.mk (blk_below (g := gb216) (o := .cells #[.int .i64 a0_0, .string a0_1, .int .i64 a0_2, .int .i64 a0_3] 46 (0, 0)) (bk_ BK216.out) hb)
                          have n1_ := Aside0.mk (below_step (bl1_ HB.out GE216.out) hb)
                          clear BK216
                          clear HB
                          have BK216 := n0_
                          have HB := n1_
                          clear n0_ n1_
                          (try clear hb)
                          (try clear hb2)
                          (try clear hk)
                          (try clear hi)
                          refine hK.out _ _ ⟨(blk_cell BK216.out 0).trans rfl, (blk_cell BK216.out 1).trans rfl, (blk_cell BK216.out 2).trans rfl, (blk_cell BK216.out 3).trans rfl⟩ (fun hHeld => ?_)
                          clear hK K
                          refine norm_ (a' := ?_) ?_ ?_
                          rotate_left
                          · show Act.put _ (some 18) _ = _
                            simp only [Act.put, List.setIfInBounds_toArray, List.set_cons_zero, List.set_cons_succ, i64_w, i32_w]
                            rfl
                          refine one_ (i := 3) (N := some 20) #[true, true, true, true, false] rfl rfl (by kernel_rfl) (by decide) (fun K hK => ?_)
                          refine goes_ Tryd.func37 (by kernel_rfl) rfl #[.agg #[.int .i64 a0_0, .string a0_1, .int .i64 a0_2, .int .i64 a0_3]] (by rfl) rfl rfl (by (try simp only [List.map_toArray, List.map_cons, List.map_nil]); first | done | rfl | (simp only [List.length_drop, List.length_take]; rfl)) ?_
                          with_reducible refine (salchowref09_Valid.calls k a0_0 a0_1 a0_2 a0_3 t221 _ ?side1 A9.out).mono ?_
                          (case side1 => exact Gl.below hG (bl1_ HB.out GE216.out))
                          rintro e w47 ⟨rfl, hb⟩
                          refine ⟨_, rfl, ?_⟩
                          have n0_ := Aside0.mk (blk_below (g := gb216) (o := .cells #[.int .i64 a0_0, .string a0_1, .int .i64 a0_2, .int .i64 a0_3] 46 (0, 0)) (bk_ BK216.out) hb)
                          have n1_ := Aside0.mk (below_step (bl1_ HB.out GE216.out) hb)
                          clear BK216
                          clear HB
                          have BK216 := n0_
                          have HB := n1_
                          clear n0_ n1_
                          (try clear hb)
                          (try clear hb2)
                          (try clear hk)
                          (try clear hi)
                          refine hK.out _ _ ⟨(blk_cell BK216.out 0).trans rfl, (blk_cell BK216.out 1).trans rfl, (blk_cell BK216.out 2).trans rfl, (blk_cell BK216.out 3).trans rfl⟩ (fun hHeld => ?_)
                          clear hK K
                          refine norm_ (a' := ?_) ?_ ?_
                          rotate_left
                          · show Act.put _ (some 20) _ = _
                            simp only [Act.put, List.setIfInBounds_toArray, List.set_cons_zero, List.set_cons_succ, i64_w, i32_w]
                            rfl
                          refine pure_ (i := 4) (N := some 21) (v := ?_) (a' := ?_) #[true, true, true, true, true] rfl rfl (by kernel_rfl) (fun _ _ _ h => h) (Or.inl ⟨by rfl, ?_⟩) ?_ ?_
                          rotate_left
                          · intro w'
                            go_simp
                            with_reducible rfl
                          rotate_left
                          · simp only [Act.put, List.setIfInBounds_toArray, List.set_cons_zero, List.set_cons_succ, i64_w, i32_w]
                            rfl
                          refine done_ (by kernel_rfl) ?_
                          have hcz48_0 : w47.cell? ⟨gb216, 0, none⟩ = some (.int .i64 a0_0) := (blk_cell BK216.out 0).trans rfl
                          have hcz48_1 : w47.cell? ⟨gb216, 1, none⟩ = some (.string a0_1) := (blk_cell BK216.out 1).trans rfl
                          have hcz48_2 : w47.cell? ⟨gb216, 2, none⟩ = some (.int .i64 a0_2) := (blk_cell BK216.out 2).trans rfl
                          have hcz48_3 : w47.cell? ⟨gb216, 3, none⟩ = some (.int .i64 a0_3) := (blk_cell BK216.out 3).trans rfl
                          have hfz48_0 := blk_frozen BK216.out 0
                          have hfz48_1 := blk_frozen BK216.out 1
                          have hfz48_2 := blk_frozen BK216.out 2
                          have hfz48_3 := blk_frozen BK216.out 3
                          try go_wp2_with (first | ((with_reducible refine gate_callee (f := 37) rfl ?_); refine goesL_ (some 23) rfl rfl Tryd.func37 (by kernel_rfl) rfl #[.agg #[.int .i64 a0_0, .string a0_1, .int .i64 a0_2, .int .i64 a0_3]] rfl (by (try simp only [List.map_toArray, List.map_cons, List.map_nil]); first | done | rfl | (simp only [List.length_drop, List.length_take]; rfl)) ?_; (with_reducible refine (salchowref09_Valid.calls k a0_0 a0_1 a0_2 a0_3 true _ ?side1 A11.out).mono ?_); (case side1 => exact Gl.below hG (bl1_ HB.out GE216.out)); rintro e w49 ⟨rfl, hb⟩; refine ⟨_, rfl, ?_⟩; have n0_ := Aside0.mk (blk_below (g := gb216) (o := .cells #[.int .i64 a0_0, .string a0_1, .int .i64 a0_2, .int .i64 a0_3] 46 (0, 0)) (bk_ BK216.out) hb); have n1_ := Aside0.mk (below_step (bl1_ HB.out GE216.out) hb); clear BK216; clear HB; have BK216 := n0_; have HB := n1_; clear n0_ n1_; (try clear hb); (try clear hb2); (try clear hk); (try clear hi)) | ((with_reducible refine gate_callee (f := 25) rfl ?_); refine goesL_ (some 36) rfl rfl Tryd.func25 (by kernel_rfl) rfl #[.string t218] rfl (by (try simp only [List.map_toArray, List.map_cons, List.map_nil]); first | done | rfl | (simp only [List.length_drop, List.length_take]; rfl)) ?_; (with_reducible refine (lexer_Lex.calls k t218 t224 t227 t228 _ A13.out).mono ?_); rintro e w50 ⟨v225, rfl, ho0, hb⟩; refine ⟨_, rfl, ?_⟩; have n0_ := Aside0.mk (Kd.R_lower (Kd.R_newB ho0 (g := gb216) (o := .cells #[.int .i64 a0_0, .string a0_1, .int .i64 a0_2, .int .i64 a0_3] 46 (0, 0)) (bk_ BK216.out)) (below_size (bl1_ HB.out GE216.out))); have n1_ := Aside0.mk (blk_below (g := gb216) (o := .cells #[.int .i64 a0_0, .string a0_1, .int .i64 a0_2, .int .i64 a0_3] 46 (0, 0)) (bk_ BK216.out) hb); have n2_ := Aside0.mk (below_step (bl1_ HB.out GE216.out) hb); clear BK216; clear HB; have HO226 := n0_; have BK216 := n1_; have HB := n2_; clear n0_ n1_ n2_; (try clear hb); (try clear hb2); (try clear hk); (try clear hi); (try clear ho0)) | ((with_reducible refine gate_dst (N := 6) rfl ?_); (try (refine gate_guard (by rfl) ?_; dsimp only)); refine box_event ?hg (N := 6) ?hd (cs := #[.int .i64 0, .int .i64 0]) (t := 26) ?hr ?_; (case hd => rfl); (case hg => rfl); (case hr => first | (go_simp; done) | (go_simp; rfl)); intro gb229 hg w51 hbox hb; have n0_ := Aside0.mk (Kd.R_below (by (with_reducible repeat (first | apply Kd.R_alloc | apply Kd.R_drewN | apply Kd.R_drew)); exact HO226.out) hb); have n1_ := Aside0.mk (blk_below (g := gb216) (o := .cells #[.int .i64 a0_0, .string a0_1, .int .i64 a0_2, .int .i64 a0_3] 46 (0, 0)) (bk_ BK216.out) hb); have n2_ := Aside0.mk (below_step (bl1_ HB.out GE216.out) hb); have n3_ := Aside0.mk (hbox); have n4_ := Aside0.mk ((by rw [hg]; exact (below_size (bl1_ HB.out GE216.out)) : w.heap.size ≤ gb229)); have n5_ := Aside0.mk ((by rw [hg]; exact (below_size (bl1_ HB.out GE216.out)) : w.heap.size ≤ gb229)); have n6_ := Aside0.mk ((by rw [hg]; exact Nat.ne_of_lt (blk_lt (g := gb216) (o := .cells #[.int .i64 a0_0, .string a0_1, .int .i64 a0_2, .int .i64 a0_3] 46 (0, 0)) (bk_ BK216.out)) : gb216 ≠ gb229)); have n7_ := Aside0.mk ((by rw [hg]; exact Nat.ne_of_gt (blk_lt (g := gb216) (o := .cells #[.int .i64 a0_0, .string a0_1, .int .i64 a0_2, .int .i64 a0_3] 46 (0, 0)) (bk_ BK216.out)) : gb229 ≠ gb216)); clear HO226; clear BK216; clear HB; have HO226 := n0_; have BK216 := n1_; have HB := n2_; have BK229 := n3_; have GW229 := n4_; have GE229 := n5_; have NB216_229 := n6_; have NB229_216 := n7_; clear n0_ n1_ n2_ n3_ n4_ n5_ n6_ n7_; clear hb hbox hg; have hnb52 := NB229_216.out; have hnc52 := NB216_229.out; have hcz53_0 : w51.cell? ⟨gb229, 0, none⟩ = some (.int .i64 0) := (blk_cell BK229.out 0).trans rfl; have hcz53_1 : w51.cell? ⟨gb229, 1, none⟩ = some (.int .i64 0) := (blk_cell BK229.out 1).trans rfl; have hfz53_0 := blk_frozen BK229.out 0; have hfz53_1 := blk_frozen BK229.out 1; have hcz54_0 : w51.cell? ⟨gb216, 0, none⟩ = some (.int .i64 a0_0) := (blk_cell BK216.out 0).trans rfl; have hcz54_1 : w51.cell? ⟨gb216, 1, none⟩ = some (.string a0_1) := (blk_cell BK216.out 1).trans rfl; have hcz54_2 : w51.cell? ⟨gb216, 2, none⟩ = some (.int .i64 a0_2) := (blk_cell BK216.out 2).trans rfl; have hcz54_3 : w51.cell? ⟨gb216, 3, none⟩ = some (.int .i64 a0_3) := (blk_cell BK216.out 3).trans rfl; have hfz54_0 := blk_frozen BK216.out 0; have hfz54_1 := blk_frozen BK216.out 1; have hfz54_2 := blk_frozen BK216.out 2; have hfz54_3 := blk_frozen BK216.out 3))
                          have n0_ : Aside0 (Kd.R k46 46 (((w51.setCell ⟨gb229, 0, none⟩ (.int .i64 t227)).setCell ⟨gb229, 1, none⟩ (.int .i64 t228)).setCell ⟨gb216, 3, none⟩ (.int .i64 0)) w.heap.size (fun k_ => k_ ≠ gb216) v225 t224) := ⟨by (with_reducible repeat (first | apply Kd.R_alloc | apply Kd.R_drewN | apply Kd.R_drew)); exact Kd.R_mono (Kd.R_far (p := ⟨gb216, 3, none⟩) (Kd.R_far (p := ⟨gb229, 1, none⟩) (Kd.R_far (p := ⟨gb229, 0, none⟩) (Kd.R_mono (Kd.R_types HO226.out BK229.out (by decide)) (fun k_ hk => (⟨hk, hk.1.2⟩ : _ ∧ k_ ≠ gb216))) (fun _ hk => hk.1.2) (.int .i64 t227)) (fun _ hk => hk.1.2) (.int .i64 t228)) (fun _ hk => hk.2) (.int .i64 0)) (fun _ hk => hk.1.1.2)⟩
                          have n1_ : Aside0 ((((w51.setCell ⟨gb229, 0, none⟩ (.int .i64 t227)).setCell ⟨gb229, 1, none⟩ (.int .i64 t228)).setCell ⟨gb216, 3, none⟩ (.int .i64 0)).heap[gb216]? = some (.cells #[.int .i64 a0_0, .string a0_1, .int .i64 a0_2, .int .i64 0] 46 (0, 0))) := ⟨by (with_reducible repeat (first | refine blk_drewN ?_ _ | refine blk_drew ?_ | refine blk_alloc ?_ _)); refine blk_put (cs := #[.int .i64 a0_0, .string a0_1, .int .i64 a0_2, .int .i64 a0_3]) ?_ 3 _ rfl; (with_reducible repeat (first | refine blk_drewN ?_ _ | refine blk_drew ?_ | refine blk_alloc ?_ _)); refine blk_far ?_ NB216_229.out _; (with_reducible repeat (first | refine blk_drewN ?_ _ | refine blk_drew ?_ | refine blk_alloc ?_ _)); refine blk_far ?_ NB216_229.out _; (with_reducible repeat (first | refine blk_drewN ?_ _ | refine blk_drew ?_ | refine blk_alloc ?_ _)); exact BK216.out⟩
                          have n2_ : Aside0 ((((w51.setCell ⟨gb229, 0, none⟩ (.int .i64 t227)).setCell ⟨gb229, 1, none⟩ (.int .i64 t228)).setCell ⟨gb216, 3, none⟩ (.int .i64 0)).heap[gb229]? = some (.cells #[.int .i64 t227, .int .i64 t228] 26 (0, 0))) := ⟨by (with_reducible repeat (first | refine blk_drewN ?_ _ | refine blk_drew ?_ | refine blk_alloc ?_ _)); refine blk_far ?_ NB229_216.out _; (with_reducible repeat (first | refine blk_drewN ?_ _ | refine blk_drew ?_ | refine blk_alloc ?_ _)); refine blk_put (cs := #[.int .i64 t227, .int .i64 0]) ?_ 1 _ rfl; (with_reducible repeat (first | refine blk_drewN ?_ _ | refine blk_drew ?_ | refine blk_alloc ?_ _)); refine blk_put (cs := #[.int .i64 0, .int .i64 0]) ?_ 0 _ rfl; (with_reducible repeat (first | refine blk_drewN ?_ _ | refine blk_drew ?_ | refine blk_alloc ?_ _)); exact BK229.out⟩
                          have n3_ : Aside0 (Below w.heap.size w (((w51.setCell ⟨gb229, 0, none⟩ (.int .i64 t227)).setCell ⟨gb229, 1, none⟩ (.int .i64 t228)).setCell ⟨gb216, 3, none⟩ (.int .i64 0))) := ⟨bl2_ HB.out GE216.out GE229.out⟩
                          (try clear HO226)
                          (try clear BK216)
                          (try clear BK229)
                          (try clear HB)
                          generalize (((w51.setCell ⟨gb229, 0, none⟩ (.int .i64 t227)).setCell ⟨gb229, 1, none⟩ (.int .i64 t228)).setCell ⟨gb216, 3, none⟩ (.int .i64 0)) = w55 at n0_ n1_ n2_ n3_ ⊢
                          have HO226 := n0_
                          have BK216 := n1_
                          have BK229 := n2_
                          have HB := n3_
                          clear n0_ n1_ n2_ n3_
                          have n0_ := Aside0.mk (Kd.R_drew HO226.out)
                          have n1_ := Aside0.mk (blk_drew BK216.out)
                          have n2_ := Aside0.mk (blk_drew BK229.out)
                          have n3_ := Aside0.mk (below_drew1 HB.out)
                          clear HO226
                          clear BK216
                          clear BK229
                          clear HB
                          have HO226 := n0_
                          have BK216 := n1_
                          have BK229 := n2_
                          have HB := n3_
                          clear n0_ n1_ n2_ n3_
                          obtain ⟨A225, c225, rfl⟩ := Kd.R_slice HO226.out
                          have p233 : 0 ≤ (0 : Int) := (by omega)
                          have q233 : 0 < (t224.length : Int) := of_decide_eq_true (by first | (with_reducible assumption) | assumption)
                          obtain ⟨ad233, e233, hx233_0, hx233_1, hx233_2, hx233_3⟩ := at_T46 (Kd.R_reads' HO226.out).2.2 0 p233 q233
                          cases e233
                          have qi233 : (0 < t224.length) = True := eq_true (by omega)
                          (try rw [show ((0 : Int)).toNat = 0 from rfl] at hx233_0)
                          (try rw [show 0 * 4 = 0 from rfl] at hx233_0)
                          (try rw [Addr.add_zero'] at hx233_0)
                          (try rw [show ((0 : Int)).toNat = 0 from rfl] at hx233_1)
                          (try rw [show 0 * 4 = 0 from rfl] at hx233_1)
                          (try rw [Addr.add_zero'] at hx233_1)
                          (try rw [show ((0 : Int)).toNat = 0 from rfl] at hx233_2)
                          (try rw [show 0 * 4 = 0 from rfl] at hx233_2)
                          (try rw [Addr.add_zero'] at hx233_2)
                          (try rw [show ((0 : Int)).toNat = 0 from rfl] at hx233_3)
                          (try rw [show 0 * 4 = 0 from rfl] at hx233_3)
                          (try rw [Addr.add_zero'] at hx233_3)
                          replace p233 := eq_true p233
                          replace q233 := eq_true q233
                          have p234 : 0 ≤ (1 : Int) := (by omega)
                          have q234 : 1 < (t224.length : Int) := of_decide_eq_true (by first | (with_reducible assumption) | assumption)
                          obtain ⟨ad234, e234, hx234_0, hx234_1, hx234_2, hx234_3⟩ := at_T46 (Kd.R_reads' HO226.out).2.2 1 p234 q234
                          obtain rfl : ad233 = ad234 := (by injection e234)
                          (try simp only [show (1 : Int).toNat = 1 from rfl, Nat.reduceMul, Nat.reduceEqDiff, Go.Addr.add, ↓reduceIte] at hx234_0)
                          (try simp only [show (1 : Int).toNat = 1 from rfl, Nat.reduceMul, Nat.reduceEqDiff, Go.Addr.add, ↓reduceIte] at hx234_1)
                          (try simp only [show (1 : Int).toNat = 1 from rfl, Nat.reduceMul, Nat.reduceEqDiff, Go.Addr.add, ↓reduceIte] at hx234_2)
                          (try simp only [show (1 : Int).toNat = 1 from rfl, Nat.reduceMul, Nat.reduceEqDiff, Go.Addr.add, ↓reduceIte] at hx234_3)
                          have qi234 : (1 < t224.length) = True := eq_true (by omega)
                          (try rw [show ((1 : Int)).toNat = 1 from rfl] at hx234_0)
                          (try rw [show 1 * 4 = 4 from rfl] at hx234_0)
                          (try rw [show ((1 : Int)).toNat = 1 from rfl] at hx234_1)
                          (try rw [show 1 * 4 = 4 from rfl] at hx234_1)
                          (try rw [show ((1 : Int)).toNat = 1 from rfl] at hx234_2)
                          (try rw [show 1 * 4 = 4 from rfl] at hx234_2)
                          (try rw [show ((1 : Int)).toNat = 1 from rfl] at hx234_3)
                          (try rw [show 1 * 4 = 4 from rfl] at hx234_3)
                          replace p234 := eq_true p234
                          replace q234 := eq_true q234
                          refine start_ (n := 38) (S := fun w' => w'.cell? ⟨gb216, 0, none⟩ = some (.int .i64 a0_0) ∧ w'.cell? ⟨gb216, 1, none⟩ = some (.string a0_1) ∧ w'.cell? ⟨gb216, 2, none⟩ = some (.int .i64 a0_2) ∧ w'.cell? ⟨gb216, 3, none⟩ = some (.int .i64 0) ∧ w'.cell? ⟨gb229, 0, none⟩ = some (.int .i64 t227) ∧ w'.cell? ⟨gb229, 1, none⟩ = some (.int .i64 t228) ∧ w'.cell? ad233 = some (.int .i64 ((rd_T46 t224 0).f0)) ∧ w'.cell? ⟨ad233.block, ad233.off + 1, none⟩ = some (.string ((rd_T46 t224 0).f1)) ∧ w'.cell? ⟨ad233.block, ad233.off + 2, none⟩ = some (.int .i64 ((rd_T46 t224 0).f2)) ∧ w'.cell? ⟨ad233.block, ad233.off + 3, none⟩ = some (.int .i64 ((rd_T46 t224 0).f3)) ∧ w'.cell? ⟨ad233.block, ad233.off + 4, none⟩ = some (.int .i64 ((rd_T46 t224 1).f0)) ∧ w'.cell? ⟨ad233.block, ad233.off + 4 + 1, none⟩ = some (.string ((rd_T46 t224 1).f1)) ∧ w'.cell? ⟨ad233.block, ad233.off + 4 + 2, none⟩ = some (.int .i64 ((rd_T46 t224 1).f2)) ∧ w'.cell? ⟨ad233.block, ad233.off + 4 + 3, none⟩ = some (.int .i64 ((rd_T46 t224 1).f3))) (ds := []) #[false, false, false, false, false, false, false, false, false, false, false, false, false, false, false, false, false, false, false, false, false, false, false, false, false, false, false, false, false, false, false, false, false, false, false, false, false, false] (by kernel_rfl) rfl rfl ⟨(blk_cell BK216.out 0).trans rfl, (blk_cell BK216.out 1).trans rfl, (blk_cell BK216.out 2).trans rfl, (blk_cell BK216.out 3).trans rfl, (blk_cell BK229.out 0).trans rfl, (blk_cell BK229.out 1).trans rfl, hx233_0, hx233_1, hx233_2, hx233_3, hx234_0, hx234_1, hx234_2, hx234_3⟩ (fun hHeld => ?_); refine with_tabW salchowlaw09_LexerSpells.tab12 salchowlaw09_LexerSpells.bits12 (fun HT_ HW_ => ?_)
                          generalize w55.drew = w56 at HO226 BK216 BK229 HB hx233_0 hx233_1 hx233_2 hx233_3 hx234_0 hx234_1 hx234_2 hx234_3 hHeld ⊢
                          refine one_ (i := 0) (N := some 52) #[true, false, false, false, false, false, false, false, false, false, false, false, false, false, false, false, false, false, false, false, false, false, false, false, false, false, false, false, false, false, false, false, false, false, false, false, false, false] rfl rfl (one_of HT_.out (by kernel_rfl)) (by decide) (fun K hK => ?_)
                          refine goes_ Tryd.func32 (by kernel_rfl) rfl #[] (by rfl) rfl rfl (by (try simp only [List.map_toArray, List.map_cons, List.map_nil]); first | done | rfl | (simp only [List.length_drop, List.length_take]; rfl)) ?_
                          with_reducible refine (salchowlaw09_awake.calls k  true _ ?side1 A32.out).mono ?_
                          (case side1 => exact Gl.below hG (bl2_ HB.out GE216.out GE229.out))
                          rintro e w57 ⟨rfl, hb⟩
                          have HS6_ := (hb.cell (World.block_lt_of_cell? _ _ (hHeld.2.2.2.2.2.2.1))).trans (hHeld.2.2.2.2.2.2.1)
                          have HS7_ := (hb.cell (World.block_lt_of_cell? _ _ (hHeld.2.2.2.2.2.2.2.1))).trans (hHeld.2.2.2.2.2.2.2.1)
                          have HS8_ := (hb.cell (World.block_lt_of_cell? _ _ (hHeld.2.2.2.2.2.2.2.2.1))).trans (hHeld.2.2.2.2.2.2.2.2.1)
                          have HS9_ := (hb.cell (World.block_lt_of_cell? _ _ (hHeld.2.2.2.2.2.2.2.2.2.1))).trans (hHeld.2.2.2.2.2.2.2.2.2.1)
                          have HS10_ := (hb.cell (World.block_lt_of_cell? _ _ (hHeld.2.2.2.2.2.2.2.2.2.2.1))).trans (hHeld.2.2.2.2.2.2.2.2.2.2.1)
                          have HS11_ := (hb.cell (World.block_lt_of_cell? _ _ (hHeld.2.2.2.2.2.2.2.2.2.2.2.1))).trans (hHeld.2.2.2.2.2.2.2.2.2.2.2.1)
                          have HS12_ := (hb.cell (World.block_lt_of_cell? _ _ (hHeld.2.2.2.2.2.2.2.2.2.2.2.2.1))).trans (hHeld.2.2.2.2.2.2.2.2.2.2.2.2.1)
                          have HS13_ := (hb.cell (World.block_lt_of_cell? _ _ (hHeld.2.2.2.2.2.2.2.2.2.2.2.2.2))).trans (hHeld.2.2.2.2.2.2.2.2.2.2.2.2.2)
                          refine ⟨_, rfl, ?_⟩
                          have n0_ := Aside0.mk (Kd.R_below (by (with_reducible repeat (first | apply Kd.R_alloc | apply Kd.R_drewN | apply Kd.R_drew)); exact HO226.out) hb)
                          have n1_ := Aside0.mk (blk_below (g := gb216) (o := .cells #[.int .i64 a0_0, .string a0_1, .int .i64 a0_2, .int .i64 0] 46 (0, 0)) (bk_ BK216.out) hb)
                          have n2_ := Aside0.mk (blk_below (g := gb229) (o := .cells #[.int .i64 t227, .int .i64 t228] 26 (0, 0)) (bk_ BK229.out) hb)
                          have n3_ := Aside0.mk (below_step (bl2_ HB.out GE216.out GE229.out) hb)
                          clear HO226
                          clear BK216
                          clear BK229
                          clear HB
                          have HO226 := n0_
                          have BK216 := n1_
                          have BK229 := n2_
                          have HB := n3_
                          clear n0_ n1_ n2_ n3_
                          (try clear hb)
                          (try clear hb2)
                          (try clear hk)
                          (try clear hi)
                          refine hK.out _ _ ⟨(blk_cell BK216.out 0).trans rfl, (blk_cell BK216.out 1).trans rfl, (blk_cell BK216.out 2).trans rfl, (blk_cell BK216.out 3).trans rfl, (blk_cell BK229.out 0).trans rfl, (blk_cell BK229.out 1).trans rfl, HS6_, HS7_, HS8_, HS9_, HS10_, HS11_, HS12_, HS13_⟩ (fun hHeld => ?_)
                          clear hK K
                          refine norm_ (a' := ?_) ?_ ?_
                          rotate_left
                          · show Act.put _ (some 52) _ = _
                            simp only [Act.put, List.setIfInBounds_toArray, List.set_cons_zero, List.set_cons_succ, i64_w, i32_w]
                            rfl
                          refine pure_ (i := 1) (N := some 53) (v := ?_) (a' := ?_) #[true, true, false, false, false, false, false, false, false, false, false, false, false, false, false, false, false, false, false, false, false, false, false, false, false, false, false, false, false, false, false, false, false, false, false, false, false, false] rfl rfl (any_of HT_.out (by kernel_rfl)) (fun _ _ _ h => h) (Or.inl ⟨by rfl, ?_⟩) ?_ ?_
                          rotate_left
                          · intro w'
                            go_simp
                            with_reducible rfl
                          rotate_left
                          · simp only [Act.put, List.setIfInBounds_toArray, List.set_cons_zero, List.set_cons_succ, i64_w, i32_w]
                            rfl
                          refine pure_ (i := 2) (N := some 54) (v := ?_) (a' := ?_) #[true, true, true, false, false, false, false, false, false, false, false, false, false, false, false, false, false, false, false, false, false, false, false, false, false, false, false, false, false, false, false, false, false, false, false, false, false, false] rfl rfl (any_of HT_.out (by kernel_rfl)) (fun _ _ _ h => h) (Or.inl ⟨by rfl, ?_⟩) ?_ ?_
                          rotate_left
                          · intro w'
                            go_simp
                            with_reducible rfl
                          rotate_left
                          · simp only [Act.put, List.setIfInBounds_toArray, List.set_cons_zero, List.set_cons_succ, i64_w, i32_w]
                            rfl
                          refine pure_ (i := 3) (N := some 55) (v := ?_) (a' := ?_) #[true, true, true, true, false, false, false, false, false, false, false, false, false, false, false, false, false, false, false, false, false, false, false, false, false, false, false, false, false, false, false, false, false, false, false, false, false, false] rfl rfl (any_of HT_.out (by kernel_rfl)) (fun _ _ _ h => h) (Or.inl ⟨by rfl, ?_⟩) ?_ ?_
                          rotate_left
                          · intro w'
                            go_simp
                            with_reducible rfl
                          rotate_left
                          · simp only [Act.put, List.setIfInBounds_toArray, List.set_cons_zero, List.set_cons_succ, i64_w, i32_w]
                            rfl
                          refine pure_ (i := 4) (N := some 56) (v := ?_) (a' := ?_) #[true, true, true, true, true, false, false, false, false, false, false, false, false, false, false, false, false, false, false, false, false, false, false, false, false, false, false, false, false, false, false, false, false, false, false, false, false, false] rfl rfl (any_of HT_.out (by kernel_rfl)) (fun _ _ _ h => h) (Or.inl ⟨by rfl, ?_⟩) ?_ ?_
                          rotate_left
                          · intro w'
                            go_simp
                            with_reducible rfl
                          rotate_left
                          · simp only [Act.put, List.setIfInBounds_toArray, List.set_cons_zero, List.set_cons_succ, i64_w, i32_w]
                            rfl
                          refine pure_ (i := 5) (N := some 57) (v := ?_) (a' := ?_) #[true, true, true, true, true, true, false, false, false, false, false, false, false, false, false, false, false, false, false, false, false, false, false, false, false, false, false, false, false, false, false, false, false, false, false, false, false, false] rfl rfl (any_of HT_.out (by kernel_rfl)) (fun _ _ _ h => h) (Or.inl ⟨by rfl, ?_⟩) ?_ ?_
                          rotate_left
                          · intro w'
                            go_simp
                            with_reducible rfl
                          rotate_left
                          · simp only [Act.put, List.setIfInBounds_toArray, List.set_cons_zero, List.set_cons_succ, i64_w, i32_w]
                            rfl
                          refine pure_ (i := 6) (N := some 58) (v := ?_) (a' := ?_) #[true, true, true, true, true, true, true, false, false, false, false, false, false, false, false, false, false, false, false, false, false, false, false, false, false, false, false, false, false, false, false, false, false, false, false, false, false, false] rfl rfl (any_of HT_.out (by kernel_rfl)) (fun _ _ _ h => h) (Or.inl ⟨by rfl, ?_⟩) ?_ ?_
                          rotate_left
                          · intro w'
                            go_simp
                            with_reducible rfl
                          rotate_left
                          · simp only [Act.put, List.setIfInBounds_toArray, List.set_cons_zero, List.set_cons_succ, i64_w, i32_w]
                            rfl
                          refine take_ (i := 7) (N := some 59) (v := ?_) (a' := ?_) #[true, true, true, true, true, true, true, true, false, false, false, false, false, false, false, false, false, false, false, false, false, false, false, false, false, false, false, false, false, false, false, false, false, false, false, false, false, false] rfl rfl (take_ofW HT_.out HW_.out (by kernel_rfl)) (fun _ _ _ h => h) (Or.inl ⟨by rfl, ?_⟩) hHeld ?_ ?_
                          rotate_left
                          · rintro w' ⟨s0, s1, s2, s3, s4, s5, s6, s7, s8, s9, s10, s11, s12, s13⟩
                            go_simp
                            with_reducible rfl
                          rotate_left
                          · simp only [Act.put, List.setIfInBounds_toArray, List.set_cons_zero, List.set_cons_succ, i64_w, i32_w]
                            rfl
                          refine one_ (i := 8) (N := some 60) #[true, true, true, true, true, true, true, true, true, false, false, false, false, false, false, false, false, false, false, false, false, false, false, false, false, false, false, false, false, false, false, false, false, false, false, false, false, false] rfl rfl (one_of HT_.out (by kernel_rfl)) (by decide) (fun K hK => ?_)
                          refine goes_ Tryd.func38 (by kernel_rfl) rfl #[.agg #[.int .i64 a0_0, .string a0_1, .int .i64 a0_2, .int .i64 0]] (by rfl) rfl rfl (by (try simp only [List.map_toArray, List.map_cons, List.map_nil]); first | done | rfl | (simp only [List.length_drop, List.length_take]; rfl)) ?_
                          with_reducible refine (salchowref09_Spell.calls k a0_0 a0_1 a0_2 0 t232 _ ?side1 A35.out).mono ?_
                          (case side1 => exact Gl.below hG (bl2_ HB.out GE216.out GE229.out))
                          rintro e w58 ⟨rfl, hb⟩
                          have HS6_ := (hb.cell (World.block_lt_of_cell? _ _ (hHeld.2.2.2.2.2.2.1))).trans (hHeld.2.2.2.2.2.2.1)
                          have HS7_ := (hb.cell (World.block_lt_of_cell? _ _ (hHeld.2.2.2.2.2.2.2.1))).trans (hHeld.2.2.2.2.2.2.2.1)
                          have HS8_ := (hb.cell (World.block_lt_of_cell? _ _ (hHeld.2.2.2.2.2.2.2.2.1))).trans (hHeld.2.2.2.2.2.2.2.2.1)
                          have HS9_ := (hb.cell (World.block_lt_of_cell? _ _ (hHeld.2.2.2.2.2.2.2.2.2.1))).trans (hHeld.2.2.2.2.2.2.2.2.2.1)
                          have HS10_ := (hb.cell (World.block_lt_of_cell? _ _ (hHeld.2.2.2.2.2.2.2.2.2.2.1))).trans (hHeld.2.2.2.2.2.2.2.2.2.2.1)
                          have HS11_ := (hb.cell (World.block_lt_of_cell? _ _ (hHeld.2.2.2.2.2.2.2.2.2.2.2.1))).trans (hHeld.2.2.2.2.2.2.2.2.2.2.2.1)
                          have HS12_ := (hb.cell (World.block_lt_of_cell? _ _ (hHeld.2.2.2.2.2.2.2.2.2.2.2.2.1))).trans (hHeld.2.2.2.2.2.2.2.2.2.2.2.2.1)
                          have HS13_ := (hb.cell (World.block_lt_of_cell? _ _ (hHeld.2.2.2.2.2.2.2.2.2.2.2.2.2))).trans (hHeld.2.2.2.2.2.2.2.2.2.2.2.2.2)
                          refine ⟨_, rfl, ?_⟩
                          have n0_ := Aside0.mk (Kd.R_below (by (with_reducible repeat (first | apply Kd.R_alloc | apply Kd.R_drewN | apply Kd.R_drew)); exact HO226.out) hb)
                          have n1_ := Aside0.mk (blk_below (g := gb216) (o := .cells #[.int .i64 a0_0, .string a0_1, .int .i64 a0_2, .int .i64 0] 46 (0, 0)) (bk_ BK216.out) hb)
                          have n2_ := Aside0.mk (blk_below (g := gb229) (o := .cells #[.int .i64 t227, .int .i64 t228] 26 (0, 0)) (bk_ BK229.out) hb)
                          have n3_ := Aside0.mk (below_step (bl2_ HB.out GE216.out GE229.out) hb)
                          clear HO226
                          clear BK216
                          clear BK229
                          clear HB
                          have HO226 := n0_
                          have BK216 := n1_
                          have BK229 := n2_
                          have HB := n3_
                          clear n0_ n1_ n2_ n3_
                          (try clear hb)
                          (try clear hb2)
                          (try clear hk)
                          (try clear hi)
                          obtain ⟨Ao59, co59, eo59⟩ := Kd.R_slice HO226.out
                          (first | subst eo59 | (injection eo59 with f1_ f2_ f3_; have f4_ := f1_.symm; have f5_ := f3_.symm; clear f1_ f2_ f3_; subst f4_; subst f5_))
                          refine hK.out _ _ ⟨(blk_cell BK216.out 0).trans rfl, (blk_cell BK216.out 1).trans rfl, (blk_cell BK216.out 2).trans rfl, (blk_cell BK216.out 3).trans rfl, (blk_cell BK229.out 0).trans rfl, (blk_cell BK229.out 1).trans rfl, HS6_, HS7_, HS8_, HS9_, HS10_, HS11_, HS12_, HS13_⟩ (fun hHeld => ?_)
                          clear hK K
                          refine norm_ (a' := ?_) ?_ ?_
                          rotate_left
                          · show Act.put _ (some 60) _ = _
                            simp only [Act.put, List.setIfInBounds_toArray, List.set_cons_zero, List.set_cons_succ, i64_w, i32_w]
                            rfl
                          refine pure_ (i := 9) (N := some 61) (v := ?_) (a' := ?_) #[true, true, true, true, true, true, true, true, true, true, false, false, false, false, false, false, false, false, false, false, false, false, false, false, false, false, false, false, false, false, false, false, false, false, false, false, false, false] rfl rfl (any_of HT_.out (by kernel_rfl)) (fun _ _ _ h => h) (Or.inl ⟨by rfl, ?_⟩) ?_ ?_
                          rotate_left
                          · intro w'
                            go_simp
                            with_reducible rfl
                          rotate_left
                          · simp only [Act.put, List.setIfInBounds_toArray, List.set_cons_zero, List.set_cons_succ, i64_w, i32_w]
                            rfl
                          refine pure_ (i := 10) (N := some 62) (v := ?_) (a' := ?_) #[true, true, true, true, true, true, true, true, true, true, true, false, false, false, false, false, false, false, false, false, false, false, false, false, false, false, false, false, false, false, false, false, false, false, false, false, false, false] rfl rfl (any_of HT_.out (by kernel_rfl)) (fun _ _ _ h => h) (Or.inl ⟨by rfl, ?_⟩) ?_ ?_
                          rotate_left
                          · intro w'
                            go_simp
                            with_reducible rfl
                          rotate_left
                          · simp only [Act.put, List.setIfInBounds_toArray, List.set_cons_zero, List.set_cons_succ, i64_w, i32_w]
                            rfl
                          refine pure_ (i := 11) (N := some 63) (v := ?_) (a' := ?_) #[true, true, true, true, true, true, true, true, true, true, true, true, false, false, false, false, false, false, false, false, false, false, false, false, false, false, false, false, false, false, false, false, false, false, false, false, false, false] rfl rfl (any_of HT_.out (by kernel_rfl)) (fun _ _ _ h => h) (Or.inl ⟨by rfl, ?_⟩) ?_ ?_
                          rotate_left
                          · intro w'
                            go_simp
                            with_reducible rfl
                          rotate_left
                          · simp only [Act.put, List.setIfInBounds_toArray, List.set_cons_zero, List.set_cons_succ, i64_w, i32_w]
                            rfl
                          refine pure_ (i := 13) (N := some 65) (v := ?_) (a' := ?_) #[true, true, true, true, true, true, true, true, true, true, true, true, false, true, false, false, false, false, false, false, false, false, false, false, false, false, false, false, false, false, false, false, false, false, false, false, false, false] rfl rfl (any_of HT_.out (by kernel_rfl)) (fun _ _ _ h => h) (Or.inl ⟨by rfl, ?_⟩) ?_ ?_
                          rotate_left
                          · intro w'
                            go_simp
                            with_reducible rfl
                          rotate_left
                          · simp only [Act.put, List.setIfInBounds_toArray, List.set_cons_zero, List.set_cons_succ, i64_w, i32_w]
                            rfl
                          refine take_ (i := 12) (N := some 64) (v := ?_) (a' := ?_) #[true, true, true, true, true, true, true, true, true, true, true, true, true, true, false, false, false, false, false, false, false, false, false, false, false, false, false, false, false, false, false, false, false, false, false, false, false, false] rfl rfl (take_ofW HT_.out HW_.out (by kernel_rfl)) (fun _ _ _ h => h) (Or.inl ⟨by rfl, ?_⟩) hHeld ?_ ?_
                          rotate_left
                          · rintro w' ⟨s0, s1, s2, s3, s4, s5, s6, s7, s8, s9, s10, s11, s12, s13⟩
                            go_simp
                            with_reducible rfl
                          rotate_left
                          · simp only [Act.put, List.setIfInBounds_toArray, List.set_cons_zero, List.set_cons_succ, i64_w, i32_w]
                            rfl
                          refine pure_ (i := 14) (N := some 66) (v := ?_) (a' := ?_) #[true, true, true, true, true, true, true, true, true, true, true, true, true, true, true, false, false, false, false, false, false, false, false, false, false, false, false, false, false, false, false, false, false, false, false, false, false, false] rfl rfl (any_of HT_.out (by kernel_rfl)) (fun _ _ _ h => h) (Or.inl ⟨by rfl, ?_⟩) ?_ ?_
                          rotate_left
                          · intro w'
                            go_simp
                            with_reducible rfl
                          rotate_left
                          · simp only [Act.put, List.setIfInBounds_toArray, List.set_cons_zero, List.set_cons_succ, i64_w, i32_w]
                            rfl
                          refine pure_ (i := 15) (N := some 67) (v := ?_) (a' := ?_) #[true, true, true, true, true, true, true, true, true, true, true, true, true, true, true, true, false, false, false, false, false, false, false, false, false, false, false, false, false, false, false, false, false, false, false, false, false, false] rfl rfl (any_of HT_.out (by kernel_rfl)) (fun _ _ _ h => h) (Or.inl ⟨by rfl, ?_⟩) ?_ ?_
                          rotate_left
                          · intro w'
                            go_simp
                            with_reducible rfl
                          rotate_left
                          · simp only [Act.put, List.setIfInBounds_toArray, List.set_cons_zero, List.set_cons_succ, i64_w, i32_w]
                            rfl
                          refine pure_ (i := 16) (N := some 68) (v := ?_) (a' := ?_) #[true, true, true, true, true, true, true, true, true, true, true, true, true, true, true, true, true, false, false, false, false, false, false, false, false, false, false, false, false, false, false, false, false, false, false, false, false, false] rfl rfl (any_of HT_.out (by kernel_rfl)) (fun _ _ _ h => h) (Or.inl ⟨by rfl, ?_⟩) ?_ ?_
                          rotate_left
                          · intro w'
                            go_simp
                            with_reducible rfl
                          rotate_left
                          · simp only [Act.put, List.setIfInBounds_toArray, List.set_cons_zero, List.set_cons_succ, i64_w, i32_w]
                            rfl
                          refine pure_ (i := 17) (N := some 69) (v := ?_) (a' := ?_) #[true, true, true, true, true, true, true, true, true, true, true, true, true, true, true, true, true, true, false, false, false, false, false, false, false, false, false, false, false, false, false, false, false, false, false, false, false, false] rfl rfl (any_of HT_.out (by kernel_rfl)) (fun _ _ _ h => h) (Or.inl ⟨by rfl, ?_⟩) ?_ ?_
                          rotate_left
                          · intro w'
                            go_simp
                            with_reducible rfl
                          rotate_left
                          · simp only [Act.put, List.setIfInBounds_toArray, List.set_cons_zero, List.set_cons_succ, i64_w, i32_w]
                            rfl
                          refine pure_ (i := 18) (N := some 70) (v := ?_) (a' := ?_) #[true, true, true, true, true, true, true, true, true, true, true, true, true, true, true, true, true, true, true, false, false, false, false, false, false, false, false, false, false, false, false, false, false, false, false, false, false, false] rfl rfl (any_of HT_.out (by kernel_rfl)) (fun _ _ _ h => h) (Or.inl ⟨by rfl, ?_⟩) ?_ ?_
                          rotate_left
                          · intro w'
                            go_simp
                            with_reducible rfl
                          rotate_left
                          · simp only [Act.put, List.setIfInBounds_toArray, List.set_cons_zero, List.set_cons_succ, i64_w, i32_w]
                            rfl
                          refine pure_ (i := 19) (N := some 71) (v := ?_) (a' := ?_) #[true, true, true, true, true, true, true, true, true, true, true, true, true, true, true, true, true, true, true, true, false, false, false, false, false, false, false, false, false, false, false, false, false, false, false, false, false, false] rfl rfl (any_of HT_.out (by kernel_rfl)) (fun _ _ _ h => h) (Or.inl ⟨by rfl, ?_⟩) ?_ ?_
                          rotate_left
                          · intro w'
                            go_simp
                            with_reducible rfl
                          rotate_left
                          · simp only [Act.put, List.setIfInBounds_toArray, List.set_cons_zero, List.set_cons_succ, i64_w, i32_w]
                            rfl
                          refine pure_ (i := 20) (N := some 72) (v := ?_) (a' := ?_) #[true, true, true, true, true, true, true, true, true, true, true, true, true, true, true, true, true, true, true, true, true, false, false, false, false, false, false, false, false, false, false, false, false, false, false, false, false, false] rfl rfl (any_of HT_.out (by kernel_rfl)) (fun _ _ _ h => h) (Or.inl ⟨by rfl, ?_⟩) ?_ ?_
                          rotate_left
                          · intro w'
                            go_simp
                            with_reducible rfl
                          rotate_left
                          · simp only [Act.put, List.setIfInBounds_toArray, List.set_cons_zero, List.set_cons_succ, i64_w, i32_w]
                            rfl
                          refine pure_ (i := 21) (N := some 73) (v := ?_) (a' := ?_) #[true, true, true, true, true, true, true, true, true, true, true, true, true, true, true, true, true, true, true, true, true, true, false, false, false, false, false, false, false, false, false, false, false, false, false, false, false, false] rfl rfl (any_of HT_.out (by kernel_rfl)) (fun _ _ _ h => h) (Or.inl ⟨by rfl, ?_⟩) ?_ ?_
                          rotate_left
                          · intro w'
                            go_simp
                            with_reducible rfl
                          rotate_left
                          · simp only [Act.put, List.setIfInBounds_toArray, List.set_cons_zero, List.set_cons_succ, i64_w, i32_w]
                            rfl
                          refine pure_ (i := 22) (N := some 74) (v := ?_) (a' := ?_) #[true, true, true, true, true, true, true, true, true, true, true, true, true, true, true, true, true, true, true, true, true, true, true, false, false, false, false, false, false, false, false, false, false, false, false, false, false, false] rfl rfl (any_of HT_.out (by kernel_rfl)) (fun _ _ _ h => h) (Or.inl ⟨by rfl, ?_⟩) ?_ ?_
                          rotate_left
                          · intro w'
                            go_simp
                            with_reducible rfl
                          rotate_left
                          · simp only [Act.put, List.setIfInBounds_toArray, List.set_cons_zero, List.set_cons_succ, i64_w, i32_w]
                            rfl
                          refine pure_ (i := 23) (N := some 75) (v := ?_) (a' := ?_) #[true, true, true, true, true, true, true, true, true, true, true, true, true, true, true, true, true, true, true, true, true, true, true, true, false, false, false, false, false, false, false, false, false, false, false, false, false, false] rfl rfl (any_of HT_.out (by kernel_rfl)) (fun _ _ _ h => h) (Or.inl ⟨by rfl, ?_⟩) ?_ ?_
                          rotate_left
                          · intro w'
                            go_simp
                            with_reducible rfl
                          rotate_left
                          · simp only [Act.put, List.setIfInBounds_toArray, List.set_cons_zero, List.set_cons_succ, i64_w, i32_w]
                            rfl
                          refine take_ (i := 24) (N := some 76) (v := ?_) (a' := ?_) #[true, true, true, true, true, true, true, true, true, true, true, true, true, true, true, true, true, true, true, true, true, true, true, true, true, false, false, false, false, false, false, false, false, false, false, false, false, false] rfl rfl (take_ofW HT_.out HW_.out (by kernel_rfl)) (fun _ _ _ h => h) (Or.inl ⟨by rfl, ?_⟩) hHeld ?_ ?_
                          rotate_left
                          · rintro w' ⟨s0, s1, s2, s3, s4, s5, s6, s7, s8, s9, s10, s11, s12, s13⟩
                            go_simp
                            with_reducible rfl
                          rotate_left
                          · simp only [Act.put, List.setIfInBounds_toArray, List.set_cons_zero, List.set_cons_succ, i64_w, i32_w]
                            rfl
                          refine take_ (i := 25) (N := some 77) (v := ?_) (a' := ?_) #[true, true, true, true, true, true, true, true, true, true, true, true, true, true, true, true, true, true, true, true, true, true, true, true, true, true, false, false, false, false, false, false, false, false, false, false, false, false] rfl rfl (take_ofW HT_.out HW_.out (by kernel_rfl)) (fun _ _ _ h => h) (Or.inl ⟨by rfl, ?_⟩) hHeld ?_ ?_
                          rotate_left
                          · rintro w' ⟨s0, s1, s2, s3, s4, s5, s6, s7, s8, s9, s10, s11, s12, s13⟩
                            go_simp
                            with_reducible rfl
                          rotate_left
                          · simp only [Act.put, List.setIfInBounds_toArray, List.set_cons_zero, List.set_cons_succ, i64_w, i32_w]
                            rfl
                          refine pure_ (i := 26) (N := some 78) (v := ?_) (a' := ?_) #[true, true, true, true, true, true, true, true, true, true, true, true, true, true, true, true, true, true, true, true, true, true, true, true, true, true, true, false, false, false, false, false, false, false, false, false, false, false] rfl rfl (any_of HT_.out (by kernel_rfl)) (fun _ _ _ h => h) (Or.inl ⟨by rfl, ?_⟩) ?_ ?_
                          rotate_left
                          · intro w'
                            go_simp
                            with_reducible rfl
                          rotate_left
                          · simp only [Act.put, List.setIfInBounds_toArray, List.set_cons_zero, List.set_cons_succ, i64_w, i32_w]
                            rfl
                          refine pure_ (i := 27) (N := some 79) (v := ?_) (a' := ?_) #[true, true, true, true, true, true, true, true, true, true, true, true, true, true, true, true, true, true, true, true, true, true, true, true, true, true, true, true, false, false, false, false, false, false, false, false, false, false] rfl rfl (any_of HT_.out (by kernel_rfl)) (fun _ _ _ h => h) (Or.inl ⟨by rfl, ?_⟩) ?_ ?_
                          rotate_left
                          · intro w'
                            go_simp
                            with_reducible rfl
                          rotate_left
                          · simp only [Act.put, List.setIfInBounds_toArray, List.set_cons_zero, List.set_cons_succ, i64_w, i32_w]
                            rfl
                          refine pure_ (i := 28) (N := some 80) (v := ?_) (a' := ?_) #[true, true, true, true, true, true, true, true, true, true, true, true, true, true, true, true, true, true, true, true, true, true, true, true, true, true, true, true, true, false, false, false, false, false, false, false, false, false] rfl rfl (any_of HT_.out (by kernel_rfl)) (fun _ _ _ h => h) (Or.inl ⟨by rfl, ?_⟩) ?_ ?_
                          rotate_left
                          · intro w'
                            go_simp
                            with_reducible rfl
                          rotate_left
                          · simp only [Act.put, List.setIfInBounds_toArray, List.set_cons_zero, List.set_cons_succ, i64_w, i32_w]
                            rfl
                          refine pure_ (i := 29) (N := some 81) (v := ?_) (a' := ?_) #[true, true, true, true, true, true, true, true, true, true, true, true, true, true, true, true, true, true, true, true, true, true, true, true, true, true, true, true, true, true, false, false, false, false, false, false, false, false] rfl rfl (any_of HT_.out (by kernel_rfl)) (fun _ _ _ h => h) (Or.inl ⟨by rfl, ?_⟩) ?_ ?_
                          rotate_left
                          · intro w'
                            go_simp
                            with_reducible rfl
                          rotate_left
                          · simp only [Act.put, List.setIfInBounds_toArray, List.set_cons_zero, List.set_cons_succ, i64_w, i32_w]
                            rfl
                          refine pure_ (i := 30) (N := some 82) (v := ?_) (a' := ?_) #[true, true, true, true, true, true, true, true, true, true, true, true, true, true, true, true, true, true, true, true, true, true, true, true, true, true, true, true, true, true, true, false, false, false, false, false, false, false] rfl rfl (any_of HT_.out (by kernel_rfl)) (fun _ _ _ h => h) (Or.inl ⟨by rfl, ?_⟩) ?_ ?_
                          rotate_left
                          · intro w'
                            go_simp
                            with_reducible rfl
                          rotate_left
                          · simp only [Act.put, List.setIfInBounds_toArray, List.set_cons_zero, List.set_cons_succ, i64_w, i32_w]
                            rfl
                          refine pure_ (i := 31) (N := some 83) (v := ?_) (a' := ?_) #[true, true, true, true, true, true, true, true, true, true, true, true, true, true, true, true, true, true, true, true, true, true, true, true, true, true, true, true, true, true, true, true, false, false, false, false, false, false] rfl rfl (any_of HT_.out (by kernel_rfl)) (fun _ _ _ h => h) (Or.inl ⟨by rfl, ?_⟩) ?_ ?_
                          rotate_left
                          · intro w'
                            go_simp
                            with_reducible rfl
                          rotate_left
                          · simp only [Act.put, List.setIfInBounds_toArray, List.set_cons_zero, List.set_cons_succ, i64_w, i32_w]
                            rfl
                          refine pure_ (i := 33) (N := some 85) (v := ?_) (a' := ?_) #[true, true, true, true, true, true, true, true, true, true, true, true, true, true, true, true, true, true, true, true, true, true, true, true, true, true, true, true, true, true, true, true, false, true, false, false, false, false] rfl rfl (any_of HT_.out (by kernel_rfl)) (fun _ _ _ h => h) (Or.inl ⟨by rfl, ?_⟩) ?_ ?_
                          rotate_left
                          · intro w'
                            go_simp
                            with_reducible rfl
                          rotate_left
                          · simp only [Act.put, List.setIfInBounds_toArray, List.set_cons_zero, List.set_cons_succ, i64_w, i32_w]
                            rfl
                          refine pure_ (i := 34) (N := some 86) (v := ?_) (a' := ?_) #[true, true, true, true, true, true, true, true, true, true, true, true, true, true, true, true, true, true, true, true, true, true, true, true, true, true, true, true, true, true, true, true, false, true, true, false, false, false] rfl rfl (any_of HT_.out (by kernel_rfl)) (fun _ _ _ h => h) (Or.inl ⟨by rfl, ?_⟩) ?_ ?_
                          rotate_left
                          · intro w'
                            go_simp
                            with_reducible rfl
                          rotate_left
                          · simp only [Act.put, List.setIfInBounds_toArray, List.set_cons_zero, List.set_cons_succ, i64_w, i32_w]
                            rfl
                          refine take_ (i := 32) (N := some 84) (v := ?_) (a' := ?_) #[true, true, true, true, true, true, true, true, true, true, true, true, true, true, true, true, true, true, true, true, true, true, true, true, true, true, true, true, true, true, true, true, true, true, true, false, false, false] rfl rfl (take_ofW HT_.out HW_.out (by kernel_rfl)) (fun _ _ _ h => h) (Or.inl ⟨by rfl, ?_⟩) hHeld ?_ ?_
                          rotate_left
                          · rintro w' ⟨s0, s1, s2, s3, s4, s5, s6, s7, s8, s9, s10, s11, s12, s13⟩
                            go_simp
                            with_reducible rfl
                          rotate_left
                          · simp only [Act.put, List.setIfInBounds_toArray, List.set_cons_zero, List.set_cons_succ, i64_w, i32_w]
                            rfl
                          refine pure_ (i := 35) (N := some 87) (v := ?_) (a' := ?_) #[true, true, true, true, true, true, true, true, true, true, true, true, true, true, true, true, true, true, true, true, true, true, true, true, true, true, true, true, true, true, true, true, true, true, true, true, false, false] rfl rfl (any_of HT_.out (by kernel_rfl)) (fun _ _ _ h => h) (Or.inl ⟨by rfl, ?_⟩) ?_ ?_
                          rotate_left
                          · intro w'
                            go_simp
                            with_reducible rfl
                          rotate_left
                          · simp only [Act.put, List.setIfInBounds_toArray, List.set_cons_zero, List.set_cons_succ, i64_w, i32_w]
                            rfl
                          refine pure_ (i := 36) (N := some 88) (v := ?_) (a' := ?_) #[true, true, true, true, true, true, true, true, true, true, true, true, true, true, true, true, true, true, true, true, true, true, true, true, true, true, true, true, true, true, true, true, true, true, true, true, true, false] rfl rfl (any_of HT_.out (by kernel_rfl)) (fun _ _ _ h => h) (Or.inl ⟨by rfl, ?_⟩) ?_ ?_
                          rotate_left
                          · intro w'
                            go_simp
                            with_reducible rfl
                          rotate_left
                          · simp only [Act.put, List.setIfInBounds_toArray, List.set_cons_zero, List.set_cons_succ, i64_w, i32_w]
                            rfl
                          refine pure_ (i := 37) (N := some 2) (v := ?_) (a' := ?_) #[true, true, true, true, true, true, true, true, true, true, true, true, true, true, true, true, true, true, true, true, true, true, true, true, true, true, true, true, true, true, true, true, true, true, true, true, true, true] rfl rfl (any_of HT_.out (by kernel_rfl)) (fun _ _ _ h => h) (Or.inl ⟨by rfl, ?_⟩) ?_ ?_
                          rotate_left
                          · intro w'
                            go_simp
                            with_reducible rfl
                          rotate_left
                          · simp only [Act.put, List.setIfInBounds_toArray, List.set_cons_zero, List.set_cons_succ, i64_w, i32_w]
                            rfl
                          refine done_ (done_of HT_.out (by kernel_rfl)) ?_
                          try go_wp2
                          go_ret
                          exact ⟨er_, bl2_ HB.out GE216.out GE229.out⟩
                        · rw [if_neg c41] at H
                          exact absurd H (by simp)
                      · rw [if_neg c40] at H
                        exact absurd H (by simp)
                    · rw [if_neg c39] at H
                      exact absurd H (by simp)
                  · rw [if_neg c38] at H
                    exact absurd H (by simp)
                · rw [if_neg c37] at H
                  exact absurd H (by simp)
              · rw [if_neg c36] at H
                exact absurd H (by simp)
            · rw [if_neg c34] at H
              exact absurd H (by simp)
          · replace c33 := Bool.eq_false_iff.mpr c33
            subst c33
            have H1 : (none) = some r := by rw [if_neg (show ¬ (false = true) by decide)] at H; exact H
            clear H
            have H := H1
            clear H1
            exact absurd H (by simp)
      · replace c12 := Bool.eq_false_iff.mpr c12
        subst c12
        have H1 : ((salchowlaw09_awake.f k).bind fun t223 => (if t223 = true then (if t219 = 1 then (some (t218.toList == ([] : List UInt8))) else (none)) else (none))) = some r := by rw [if_neg (show ¬ (false = true) by decide)] at H; exact H
        clear H
        have H := H1
        clear H1
        replace H := Option.bind_eq_some_iff.mp H
        obtain ⟨t223, A600, H⟩ := H
        replace H : (if t223 = true then (if t219 = 1 then (some (t218.toList == ([] : List UInt8))) else (none)) else (none)) = some r := H
        have A60 := Aside0.mk A600
        clear A600
        by_cases c61 : t223 = true
        · subst c61
          have H1 : (if t219 = 1 then (some (t218.toList == ([] : List UInt8))) else (none)) = some r := by rw [if_pos rfl] at H; exact H
          clear H
          have H := H1
          clear H1
          by_cases c62 : t219 = 1
          · rw [if_pos c62] at H
            have c62b0 : (t219 == 1) = true := beq_iff_eq.mpr c62
            have c62b1 : (t219 != 1) = false := bne_eq_false_iff_eq.mpr c62
            clear c62
            obtain rfl := Option.some.inj H
            go_enter Tryd.func9, Tryd.ntmps9
            try go_wp2_with (first | ((with_reducible refine gate_dst (N := 1) rfl ?_); (try (refine gate_guard (by rfl) ?_; dsimp only)); refine box_event ?hg (N := 1) ?hd (cs := #[.int .i64 a0_0, .string a0_1, .int .i64 a0_2, .int .i64 a0_3]) (t := 46) ?hr ?_; (case hd => rfl); (case hg => rfl); (case hr => first | (go_simp; done) | (go_simp; rfl)); intro gb216 hg w63 hbox hb; have n0_ := Aside0.mk (below_step (bl_ HB.out) hb); have n1_ := Aside0.mk (hbox); have n2_ := Aside0.mk ((by rw [hg]; exact (below_size (bl_ HB.out)) : w.heap.size ≤ gb216)); have n3_ := Aside0.mk ((by rw [hg]; exact (below_size (bl_ HB.out)) : w.heap.size ≤ gb216)); clear HB; have HB := n0_; have BK216 := n1_; have GW216 := n2_; have GE216 := n3_; clear n0_ n1_ n2_ n3_; clear hb hbox hg; have hcz64_0 : w63.cell? ⟨gb216, 0, none⟩ = some (.int .i64 a0_0) := (blk_cell BK216.out 0).trans rfl; have hcz64_1 : w63.cell? ⟨gb216, 1, none⟩ = some (.string a0_1) := (blk_cell BK216.out 1).trans rfl; have hcz64_2 : w63.cell? ⟨gb216, 2, none⟩ = some (.int .i64 a0_2) := (blk_cell BK216.out 2).trans rfl; have hcz64_3 : w63.cell? ⟨gb216, 3, none⟩ = some (.int .i64 a0_3) := (blk_cell BK216.out 3).trans rfl; have hfz64_0 := blk_frozen BK216.out 0; have hfz64_1 := blk_frozen BK216.out 1; have hfz64_2 := blk_frozen BK216.out 2; have hfz64_3 := blk_frozen BK216.out 3) | ((with_reducible refine gate_callee (f := 35) rfl ?_); refine goesL_ (some 14) rfl rfl Tryd.func35 (by kernel_rfl) rfl #[.agg #[.int .i64 a0_0, .string a0_1, .int .i64 a0_2, .int .i64 a0_3]] rfl (by (try simp only [List.map_toArray, List.map_cons, List.map_nil]); first | done | rfl | (simp only [List.length_drop, List.length_take]; rfl)) ?_; (with_reducible refine (lexer_Spell.calls k a0_0 a0_1 a0_2 a0_3 t218 t219 _ ?side1 A7.out).mono ?_); (case side1 => exact Gl.below hG (bl1_ HB.out GE216.out)); rintro e w65 ⟨rfl, hb⟩; refine ⟨_, rfl, ?_⟩; have n0_ := Aside0.mk (blk_below (g := gb216) (o := .cells #[.int .i64 a0_0, .string a0_1, .int .i64 a0_2, .int .i64 a0_3] 46 (0, 0)) (bk_ BK216.out) hb); have n1_ := Aside0.mk (below_step (bl1_ HB.out GE216.out) hb); clear BK216; clear HB; have BK216 := n0_; have HB := n1_; clear n0_ n1_; (try clear hb); (try clear hb2); (try clear hk); (try clear hi)))
            have n0_ := Aside0.mk (blk_drew BK216.out)
            have n1_ := Aside0.mk (below_drew1 HB.out)
            clear BK216
            clear HB
            have BK216 := n0_
            have HB := n1_
            clear n0_ n1_
            refine start_ (n := 5) (S := fun w' => w'.cell? ⟨gb216, 0, none⟩ = some (.int .i64 a0_0) ∧ w'.cell? ⟨gb216, 1, none⟩ = some (.string a0_1) ∧ w'.cell? ⟨gb216, 2, none⟩ = some (.int .i64 a0_2) ∧ w'.cell? ⟨gb216, 3, none⟩ = some (.int .i64 a0_3)) (ds := []) #[false, false, false, false, false] (by kernel_rfl) rfl rfl ⟨(blk_cell BK216.out 0).trans rfl, (blk_cell BK216.out 1).trans rfl, (blk_cell BK216.out 2).trans rfl, (blk_cell BK216.out 3).trans rfl⟩ (fun hHeld => ?_)
            generalize w65.drew = w66 at BK216 HB hHeld ⊢
            refine take_ (i := 0) (N := some 17) (v := ?_) (a' := ?_) #[true, false, false, false, false] rfl rfl (by kernel_rfl) (fun _ _ _ h => h) (Or.inl ⟨by rfl, ?_⟩) hHeld ?_ ?_
            rotate_left
            · rintro w' ⟨s0, s1, s2, s3⟩
              go_simp
              with_reducible rfl
            rotate_left
            · simp only [Act.put, List.setIfInBounds_toArray, List.set_cons_zero, List.set_cons_succ, i64_w, i32_w]
              rfl
            refine take_ (i := 2) (N := some 19) (v := ?_) (a' := ?_) #[true, false, true, false, false] rfl rfl (by kernel_rfl) (fun _ _ _ h => h) (Or.inl ⟨by rfl, ?_⟩) hHeld ?_ ?_
            rotate_left
            · rintro w' ⟨s0, s1, s2, s3⟩
              go_simp
              with_reducible rfl
            rotate_left
            · simp only [Act.put, List.setIfInBounds_toArray, List.set_cons_zero, List.set_cons_succ, i64_w, i32_w]
              rfl
            refine one_ (i := 1) (N := some 18) #[true, true, true, false, false] rfl rfl (by kernel_rfl) (by decide) (fun K hK => ?_)
            refine goes_ Tryd.func36 (by kernel_rfl) rfl #[.agg #[.int .i64 a0_0, .string a0_1, .int .i64 a0_2, .int .i64 a0_3]] (by rfl) rfl rfl (by (try simp only [List.map_toArray, List.map_cons, List.map_nil]); first | done | rfl | (simp only [List.length_drop, List.length_take]; rfl)) ?_
            with_reducible refine (lexer_Valid.calls k a0_0 a0_1 a0_2 a0_3 t220 _ A8.out).mono ?_
            rintro e w67 ⟨rfl, hb⟩
            refine ⟨_, rfl, ?_⟩
            have n0_ := Aside0.mk (blk_below (g := gb216) (o := .cells #[.int .i64 a0_0, .string a0_1, .int .i64 a0_2, .int .i64 a0_3] 46 (0, 0)) (bk_ BK216.out) hb)
            have n1_ := Aside0.mk (below_step (bl1_ HB.out GE216.out) hb)
            clear BK216
            clear HB
            have BK216 := n0_
            have HB := n1_
            clear n0_ n1_
            (try clear hb)
            (try clear hb2)
            (try clear hk)
            (try clear hi)
            refine hK.out _ _ ⟨(blk_cell BK216.out 0).trans rfl, (blk_cell BK216.out 1).trans rfl, (blk_cell BK216.out 2).trans rfl, (blk_cell BK216.out 3).trans rfl⟩ (fun hHeld => ?_)
            clear hK K
            refine norm_ (a' := ?_) ?_ ?_
            rotate_left
            · show Act.put _ (some 18) _ = _
              simp only [Act.put, List.setIfInBounds_toArray, List.set_cons_zero, List.set_cons_succ, i64_w, i32_w]
              rfl
            refine one_ (i := 3) (N := some 20) #[true, true, true, true, false] rfl rfl (by kernel_rfl) (by decide) (fun K hK => ?_)
            refine goes_ Tryd.func37 (by kernel_rfl) rfl #[.agg #[.int .i64 a0_0, .string a0_1, .int .i64 a0_2, .int .i64 a0_3]] (by rfl) rfl rfl (by (try simp only [List.map_toArray, List.map_cons, List.map_nil]); first | done | rfl | (simp only [List.length_drop, List.length_take]; rfl)) ?_
            with_reducible refine (salchowref09_Valid.calls k a0_0 a0_1 a0_2 a0_3 t221 _ ?side1 A9.out).mono ?_
            (case side1 => exact Gl.below hG (bl1_ HB.out GE216.out))
            rintro e w68 ⟨rfl, hb⟩
            refine ⟨_, rfl, ?_⟩
            have n0_ := Aside0.mk (blk_below (g := gb216) (o := .cells #[.int .i64 a0_0, .string a0_1, .int .i64 a0_2, .int .i64 a0_3] 46 (0, 0)) (bk_ BK216.out) hb)
            have n1_ := Aside0.mk (below_step (bl1_ HB.out GE216.out) hb)
            clear BK216
            clear HB
            have BK216 := n0_
            have HB := n1_
            clear n0_ n1_
            (try clear hb)
            (try clear hb2)
            (try clear hk)
            (try clear hi)
            refine hK.out _ _ ⟨(blk_cell BK216.out 0).trans rfl, (blk_cell BK216.out 1).trans rfl, (blk_cell BK216.out 2).trans rfl, (blk_cell BK216.out 3).trans rfl⟩ (fun hHeld => ?_)
            clear hK K
            refine norm_ (a' := ?_) ?_ ?_
            rotate_left
            · show Act.put _ (some 20) _ = _
              simp only [Act.put, List.setIfInBounds_toArray, List.set_cons_zero, List.set_cons_succ, i64_w, i32_w]
              rfl
            refine pure_ (i := 4) (N := some 21) (v := ?_) (a' := ?_) #[true, true, true, true, true] rfl rfl (by kernel_rfl) (fun _ _ _ h => h) (Or.inl ⟨by rfl, ?_⟩) ?_ ?_
            rotate_left
            · intro w'
              go_simp
              with_reducible rfl
            rotate_left
            · simp only [Act.put, List.setIfInBounds_toArray, List.set_cons_zero, List.set_cons_succ, i64_w, i32_w]
              rfl
            refine done_ (by kernel_rfl) ?_
            have hcz69_0 : w68.cell? ⟨gb216, 0, none⟩ = some (.int .i64 a0_0) := (blk_cell BK216.out 0).trans rfl
            have hcz69_1 : w68.cell? ⟨gb216, 1, none⟩ = some (.string a0_1) := (blk_cell BK216.out 1).trans rfl
            have hcz69_2 : w68.cell? ⟨gb216, 2, none⟩ = some (.int .i64 a0_2) := (blk_cell BK216.out 2).trans rfl
            have hcz69_3 : w68.cell? ⟨gb216, 3, none⟩ = some (.int .i64 a0_3) := (blk_cell BK216.out 3).trans rfl
            have hfz69_0 := blk_frozen BK216.out 0
            have hfz69_1 := blk_frozen BK216.out 1
            have hfz69_2 := blk_frozen BK216.out 2
            have hfz69_3 := blk_frozen BK216.out 3
            try go_wp2_with (first | ((with_reducible refine gate_callee (f := 37) rfl ?_); refine goesL_ (some 23) rfl rfl Tryd.func37 (by kernel_rfl) rfl #[.agg #[.int .i64 a0_0, .string a0_1, .int .i64 a0_2, .int .i64 a0_3]] rfl (by (try simp only [List.map_toArray, List.map_cons, List.map_nil]); first | done | rfl | (simp only [List.length_drop, List.length_take]; rfl)) ?_; (with_reducible refine (salchowref09_Valid.calls k a0_0 a0_1 a0_2 a0_3 false _ ?side1 A11.out).mono ?_); (case side1 => exact Gl.below hG (bl1_ HB.out GE216.out)); rintro e w70 ⟨rfl, hb⟩; refine ⟨_, rfl, ?_⟩; have n0_ := Aside0.mk (blk_below (g := gb216) (o := .cells #[.int .i64 a0_0, .string a0_1, .int .i64 a0_2, .int .i64 a0_3] 46 (0, 0)) (bk_ BK216.out) hb); have n1_ := Aside0.mk (below_step (bl1_ HB.out GE216.out) hb); clear BK216; clear HB; have BK216 := n0_; have HB := n1_; clear n0_ n1_; (try clear hb); (try clear hb2); (try clear hk); (try clear hi)) | ((with_reducible refine gate_callee (f := 32) rfl ?_); refine goesL_ (some 25) rfl rfl Tryd.func32 (by kernel_rfl) rfl #[] rfl (by (try simp only [List.map_toArray, List.map_cons, List.map_nil]); first | done | rfl | (simp only [List.length_drop, List.length_take]; rfl)) ?_; (with_reducible refine (salchowlaw09_awake.calls k  true _ ?side1 A60.out).mono ?_); (case side1 => exact Gl.below hG (bl1_ HB.out GE216.out)); rintro e w71 ⟨rfl, hb⟩; refine ⟨_, rfl, ?_⟩; have n0_ := Aside0.mk (blk_below (g := gb216) (o := .cells #[.int .i64 a0_0, .string a0_1, .int .i64 a0_2, .int .i64 a0_3] 46 (0, 0)) (bk_ BK216.out) hb); have n1_ := Aside0.mk (below_step (bl1_ HB.out GE216.out) hb); clear BK216; clear HB; have BK216 := n0_; have HB := n1_; clear n0_ n1_; (try clear hb); (try clear hb2); (try clear hk); (try clear hi)))
            go_ret
            exact ⟨er_, bl1_ HB.out GE216.out⟩
          · rw [if_neg c62] at H
            exact absurd H (by simp)
        · replace c61 := Bool.eq_false_iff.mpr c61
          subst c61
          have H1 : (none) = some r := by rw [if_neg (show ¬ (false = true) by decide)] at H; exact H
          clear H
          have H := H1
          clear H1
          exact absurd H (by simp)
end Go.Proofs.YtkifdadhojbohaaDoor.Pr
namespace Go.Proofs.YtkifdadhojbohaaDoor.Pu
open Go.RowKit Go.Proofs.YtkifdadhojbohaaDoor Go.Proofs.YtkifdadhojbohaaDoor.Pr Go.Proofs.YtkifdadhojbohaaDoorW.PrintWords Go.Proofs.YtkifdadhojbohaaDoorW.PrintLast
/-- A valid token. -/
def validB (k : Int) (t : List UInt8) (n : Int) : Bool :=
  if k ≠ 2 ∧ n ≠ 0 then false
  else if k = 1 then t.all isRunB && wordL t == 0
  else if k = 2 then t == [] && decide (0 ≤ n) && decide (n ≤ 1000000000)
  else if k = 3 then titleL t == 0
  else if k = 4 then t.length == 1 && t.all fun c => kindOf c.toNat == 5
  else if k = 5 then t == [] else false
/-- The spelling. -/
def spellS (k : Int) (t : List UInt8) (n : Int) : List UInt8 :=
  if k = 3 then 34 :: t ++ [34] else if k = 2 then (if 0 ≤ n ∧ n ≤ 1000000000 then numS n.toNat else []) else if k = 1 ∨ k = 4 then t else []
theorem isWord_f (s : ByteArray) (hs : s.size ≤ 1000000) : Ev (fun k => lexer_isWord.f k s) ((lst s).all isRunB && wordL (lst s) == 0) := by
  have loop : ∀ (d i : Nat) (l : List UInt8), i ≤ s.size → s.size - i = d → (lst s).drop i = l → Ev (fun k => lexer_isWord.l0 k s s.size i) (l.all isRunB && wordL (lst s) == 0) := by
    intro d
    induction d with
    | zero =>
      intro i l hi hd hl
      obtain rfl : i = s.size := by omega
      obtain rfl : l = [] := by rw [← hl]; exact List.drop_eq_nil_of_le (by rw [lst_length]; omega)
      refine Ev.succ ?_
      simp only [lexer_isWord.l0]
      exact Ev.ifn (by omega) (Ev.bind (word_f s hs) (Ev.ret (by simp)))
    | succ d ih =>
      intro i l hi hd hl
      cases l with
      | nil => exact absurd (at_nil hi hl) (by omega)
      | cons c l =>
        obtain ⟨h1, h2, h3⟩ := at_cons hl
        refine Ev.succ ?_
        simp only [lexer_isWord.l0]
        rw [h2, wrap_nat i (by omega)]
        refine Ev.ifp (by omega) (Ev.ifp (by omega) (Ev.ifp (by omega) (Ev.val (isRun_f c) ?_)))
        by_cases hr : isRunB c = true
        · refine Ev.ifp hr ?_
          have := ih (i + 1) l (by omega) (by omega) h3
          rw [List.all_cons, hr, Bool.true_and]
          exact this
        · refine Ev.ifn hr (Ev.ret ?_)
          rw [Bool.not_eq_true] at hr
          rw [List.all_cons, hr]; rfl
  unfold lexer_isWord.f
  exact loop _ 0 (lst s) (by omega) rfl rfl
theorem list1 (s : ByteArray) (h : s.size = 1) : ∃ c, lst s = [c] ∧ bt s 0 = (c.toNat : Int) := by
  obtain ⟨c, hc, hb⟩ := head_bt (s := s) (by omega)
  have hl : (lst s).length = 1 := by rw [lst_length]; exact h
  match hx : lst s, hl with
  | [x], _ =>
    rw [hx] at hc
    simp only [List.head?_cons, Option.some.injEq] at hc
    subst hc
    exact ⟨x, rfl, hb⟩
theorem valid_f (k0 : Int) (s : ByteArray) (hs : s.size ≤ 1000000) (n a : Int) : Ev (fun k => lexer_Valid.f k k0 s n a) (validB k0 (lst s) n) := by
  have j0 : Ev (fun k => lexer_Valid.j0 k false k0 s n a) (validB k0 (lst s) (if k0 = 2 then n else 0)) := by
    refine Ev.succ ?_
    simp only [lexer_Valid.j0]
    refine Ev.ifn (by decide) ?_
    unfold validB
    by_cases h1 : k0 = 1
    · subst h1
      refine Ev.ifp rfl ?_
      by_cases h : s.toList = []
      · refine Ev.ifp h (Ev.ret ?_)
        rw [toList_lst] at h
        rw [h]; rfl
      · refine Ev.ifn h (Ev.bind (isWord_f s hs) (Ev.ret ?_))
        simp
    · refine Ev.ifn h1 ?_
      by_cases h2 : k0 = 2
      · subst h2
        refine Ev.ifp rfl ?_
        by_cases h : s.toList = []
        · refine Ev.ifp h ?_
          rw [toList_lst] at h
          by_cases h3 : 0 ≤ n
          · exact Ev.ifp h3 (Ev.ret (by simp [h, h3]))
          · exact Ev.ifn h3 (Ev.ret (by simp [h, h3]))
        · refine Ev.ifn h (Ev.ret ?_)
          rw [toList_lst] at h
          simp [h]
      · refine Ev.ifn h2 ?_
        by_cases h3 : k0 = 3
        · subst h3
          exact Ev.ifp rfl (Ev.bind (title_f s hs) (Ev.ret (by simp)))
        · refine Ev.ifn h3 ?_
          by_cases h4 : k0 = 4
          · subst h4
            refine Ev.ifp rfl ?_
            by_cases h : (s.size : Int) = 1
            · obtain ⟨c, hc, hb⟩ := list1 s (by omega)
              refine Ev.ifp h (Ev.val kinds_f (Ev.ifp (by omega) (Ev.ifp (by rw [hb]; omega) (Ev.ifp (by rw [hb]; exact byte_lt c) (Ev.ret ?_)))))
              rw [hb, at_byte, hc]
              simp
              by_cases h5 : kindOf c.toNat = 5
              · simp [h5]
              · rw [beq_eq_false_iff_ne.2 h5, beq_eq_false_iff_ne]; omega
            · refine Ev.ifn h (Ev.ret ?_)
              have : ¬ (lst s).length = 1 := by rw [lst_length]; omega
              simp [this]
          · refine Ev.ifn h4 ?_
            by_cases h5 : k0 = 5
            · subst h5
              exact Ev.ifp rfl (Ev.ret (by rw [toList_lst]; simp))
            · exact Ev.ifn h5 (Ev.ret (by simp [h1, h2, h3, h4, h5]))
  unfold lexer_Valid.f
  by_cases h2 : k0 = 2
  · rw [if_pos h2] at j0
    exact Ev.ifp h2 j0
  · rw [if_neg h2] at j0
    refine Ev.ifn h2 ?_
    by_cases hn : n = 0
    · subst hn; exact j0
    · rw [show (n != 0) = true by simpa using hn]
      refine Ev.succ ?_
      simp only [lexer_Valid.j0]
      exact Ev.ifp (by simp) (Ev.ret (by unfold validB; rw [if_pos ⟨h2, hn⟩]))
theorem cutZ_snoc (l : List UInt8) (c : UInt8) : cutZ (l ++ [c]) = if c.toNat = 48 then cutZ l else l ++ [c] := by
  unfold cutZ
  rw [List.reverse_append, List.reverse_cons, List.reverse_nil, List.nil_append, List.singleton_append]
  by_cases h : c.toNat = 48
  · have : c = 48 := by apply UInt8.toNat_inj.1; rw [h]; rfl
    rw [if_pos h, List.dropWhile_cons_of_pos (by rw [this]; rfl)]
  · have : ¬ (c == 48) = true := by
      rw [beq_iff_eq]; intro e; rw [e] at h; exact h rfl
    rw [if_neg h, List.dropWhile_cons_of_neg (p := fun x => x == 48) this]
    simp
theorem str_append (a b : List UInt8) : str a ++ str b = str (a ++ b) := by
  apply lst_inj; rw [lst_append]; rfl
theorem rspell_loop (w : List UInt8) (hw : w.length ≤ 100) : ∀ (m : Nat) (p : List UInt8), p.length = m → m ≤ 100 → Ev (fun k => salchowref09_spell.l0 k (str w) (str p)) (str (w ++ (if cutZ p = [] then [] else 46 :: cutZ p))) := by
  intro m
  induction m with
  | zero =>
    intro p hp _
    obtain rfl : p = [] := List.length_eq_zero_iff.1 hp
    refine Ev.succ ?_
    simp only [salchowref09_spell.l0]
    refine Ev.ifn (by rw [size_str]; simp) (Ev.ifp (by rw [toList_lst]; rfl) (Ev.ret ?_))
    simp [cutZ]
  | succ m ih =>
    intro p hp hm
    obtain ⟨q, c, rfl⟩ : ∃ q c, p = q ++ [c] := ⟨p.dropLast, p.getLast (by intro h; rw [h] at hp; simp at hp), (List.dropLast_concat_getLast _).symm⟩
    have hq : q.length = m := by simpa using hp
    have hb : bt (str (q ++ [c])) ((m : Nat) : Int) = (c.toNat : Int) := by
      obtain ⟨x, hx, hb⟩ := bt_get (s := str (q ++ [c])) (i := m) (by rw [size_str]; omega)
      rw [lst_str, List.getElem?_append_right (by omega)] at hx
      simp [hq] at hx
      rw [hb, hx]
    have hsz : (str (q ++ [c])).size = m + 1 := by rw [size_str]; simpa using hp
    refine Ev.succ ?_
    simp only [salchowref09_spell.l0]
    rw [hsz, wrap64_of (by omega) (by omega), show (((m + 1 : Nat) : Int) - 1) = ((m : Nat) : Int) by omega, hb]
    refine Ev.ifp (by omega) (Ev.ifp (by omega) (Ev.ifp (by omega) ?_))
    rw [cutZ_snoc]
    by_cases h48 : c.toNat = 48
    · rw [if_pos h48]
      refine Ev.ifp (by omega) (Ev.ifp (by omega) ?_)
      have : (str (q ++ [c])).extract 0 ((m : Nat) : Int).toNat = str q := by
        apply lst_inj
        rw [lst_extract, lst_str, lst_str, Int.toNat_natCast, List.drop_zero, List.take_left' hq]
      rw [this]
      exact ih q hq (by omega)
    · rw [if_neg h48]
      refine Ev.ifn (by omega) (Ev.ifn (by rw [toList_lst, lst_str]; simp) (Ev.ifp (by omega) (Ev.ifp ?_ (Ev.ret ?_))))
      · rw [show (⟨#[46]⟩ : ByteArray) = str [46] from rfl, str_append, size_str, size_str]
        simp only [List.length_append, List.length_cons, List.length_nil]
        omega
      · rw [if_neg (by simp), show (⟨#[46]⟩ : ByteArray) = str [46] from rfl, str_append, str_append]
        rfl
theorem dec_len (u : Nat) (hu : u ≤ 10000000) : (Lib.decDigits u).length ≤ 8 := by
  rw [Lib.decDigits_length]
  by_cases h0 : u < 10
  · rw [Lib.nDigits_small h0]; omega
  · have := Lib.nDigits_unique
    rcases (by omega : (10 ≤ u ∧ u < 100) ∨ (100 ≤ u ∧ u < 1000) ∨ (1000 ≤ u ∧ u < 10000) ∨ (10000 ≤ u ∧ u < 100000) ∨ (100000 ≤ u ∧ u < 1000000) ∨ (1000000 ≤ u ∧ u < 10000000) ∨ (10000000 ≤ u ∧ u < 100000000)) with h | h | h | h | h | h | h
    · rw [this 1 u (by omega) (by omega)]; omega
    · rw [this 2 u (by omega) (by omega)]; omega
    · rw [this 3 u (by omega) (by omega)]; omega
    · rw [this 4 u (by omega) (by omega)]; omega
    · rw [this 5 u (by omega) (by omega)]; omega
    · rw [this 6 u (by omega) (by omega)]; omega
    · rw [this 7 u (by omega) (by omega)]; omega
theorem fmt_f (n : Nat) (hn : n ≤ 2000000000) : strconv_FormatInt.f (n : Int) 10 = some (str (Lib.decDigits n)) := by
  unfold strconv_FormatInt.f
  rw [if_pos (by omega)]
  rfl
theorem rspell_f (n : Nat) (hn : n ≤ 1000000000) : Ev (fun k => salchowref09_spell.f k (n : Int)) (str (numS n)) := by
  unfold salchowref09_spell.f
  have e1 : wrap64 (Int.tdiv (n : Int) 1000) = ((n / 1000 : Nat) : Int) := by
    rw [show Int.tdiv (n : Int) 1000 = ((n / 1000 : Nat) : Int) from rfl, wrap64_of (by omega) (by omega)]
  have e2 : wrap64 (1000 + (Int.tmod (n : Int) 1000)) = ((1 * 1000 + n % 1000 : Nat) : Int) := by
    rw [show Int.tmod (n : Int) 1000 = ((n % 1000 : Nat) : Int) from rfl, wrap64_of (by omega) (by omega)]; omega
  rw [e1, e2, fmt_f _ (by omega), fmt_f _ (by omega), dec_thousand _ (by omega) 1 (by omega), show Lib.decDigits 1 = [UInt8.ofNat (48 + 1)] from Lib.decDigits_one (by decide)]
  simp only [Option.bind_some]
  have hx : (str ([UInt8.ofNat (48 + 1)] ++ three (n % 1000))).extract 1 (str ([UInt8.ofNat (48 + 1)] ++ three (n % 1000))).size = str (three (n % 1000)) := by
    apply lst_inj
    rw [lst_extract, lst_str, lst_str, size_str, List.take_length]; rfl
  rw [hx]
  refine Ev.ifp (by rw [size_str]; simp [three]) ?_
  exact rspell_loop _ (by have := dec_len (n / 1000) (by omega); omega) 3 _ rfl (by omega)
theorem rSpell_f (k0 : Int) (s : ByteArray) (hs : s.size ≤ 1000000) (n a : Int) : Ev (fun k => salchowref09_Spell.f k k0 s n a) (str (spellS k0 (lst s) n)) := by
  unfold salchowref09_Spell.f spellS
  by_cases h2 : k0 = 2
  · subst h2
    refine Ev.ifp rfl ?_
    by_cases h : n ≥ 0
    · refine Ev.ifp h ?_
      by_cases h3 : n ≤ 1000000000
      · obtain ⟨m, rfl⟩ : ∃ m : Nat, n = (m : Int) := ⟨n.toNat, by omega⟩
        refine Ev.ifp h3 (Ev.bind (rspell_f m (by omega)) (Ev.ret ?_))
        simp [h3]
      · exact Ev.ifn h3 (Ev.ret (by simp [h3]; rfl))
    · exact Ev.ifn h (Ev.ret (by simp [show ¬ 0 ≤ n from h]; rfl))
  · refine Ev.ifn h2 ?_
    by_cases h3 : k0 = 3
    · subst h3
      refine Ev.ifp rfl (Ev.ifp (by omega) (Ev.ifp ?_ (Ev.ret ?_)))
      · rw [ByteArray.size_append]; show 1 + s.size + 1 ≤ _; omega
      · apply lst_inj
        rw [lst_append, lst_append, lst_str]; rfl
    · refine Ev.ifn h3 ?_
      by_cases h1 : k0 = 1
      · exact Ev.ifp h1 (Ev.ret (by simp [h1]))
      · refine Ev.ifn h1 ?_
        by_cases h4 : k0 = 4
        · exact Ev.ifp h4 (Ev.ret (by simp [h4]))
        · exact Ev.ifn h4 (Ev.ret (by simp [h1, h2, h3, h4]; rfl))
end Go.Proofs.YtkifdadhojbohaaDoor.Pu
namespace Go.Proofs.YtkifdadhojbohaaDoor.Pu
open Go.RowKit Go.Proofs.YtkifdadhojbohaaDoor Go.Proofs.YtkifdadhojbohaaDoor.Pr Go.Proofs.YtkifdadhojbohaaDoorW.PrintWords Go.Proofs.YtkifdadhojbohaaDoorW.PrintLast
theorem tw_all {α : Type} {p : α → Bool} : ∀ {l : List α}, l.all p = true → l.takeWhile p = l ∧ l.dropWhile p = []
  | [], _ => ⟨rfl, rfl⟩
  | a :: l, h => by
    rw [List.all_cons, Bool.and_eq_true] at h
    obtain ⟨h1, h2⟩ := tw_all (l := l) h.2
    exact ⟨by rw [List.takeWhile_cons_of_pos h.1, h1], by rw [List.dropWhile_cons_of_pos h.1, h2]⟩
theorem dw_nil {α : Type} {p : α → Bool} : ∀ {l : List α}, l.dropWhile p = [] → l.all p = true
  | [], _ => rfl
  | a :: l, h => by
    by_cases ha : p a = true
    · rw [List.dropWhile_cons_of_pos ha] at h
      rw [List.all_cons, ha, dw_nil h]; rfl
    · rw [List.dropWhile_cons_of_neg ha] at h; cases h
theorem run_no {c : UInt8} (h : isRunB c = true) : c.toNat ≠ 34 ∧ kindOf c.toNat ≠ 5 ∧ c.toNat ≠ 35 ∧ kindOf c.toNat ≠ 1 := by
  unfold isRunB at h
  simp only [Bool.or_eq_true, beq_iff_eq] at h
  have h2 := kind2 c.toNat; have h3 := kind3 c.toNat; have h4 := kind4 c.toNat
  refine ⟨?_, ?_, ?_, ?_⟩ <;> omega
/-- All of a run at once. -/
theorem tok_run (t : List UInt8) (h : t ≠ []) (ha : t.all isRunB = true) : tokL t = clsL t [] := by
  cases t with
  | nil => exact absurd rfl h
  | cons c l =>
    rw [List.all_cons, Bool.and_eq_true] at ha
    obtain ⟨h1, h2⟩ := tw_all ha.2
    unfold tokL
    dsimp only
    rw [if_pos ha.1, h1, h2]
/-- The condition that the reference's Valid holds against the token that it reads. -/
def readsAs (k : Int) (t : List UInt8) (n : Int) (s : List UInt8) : Prop := (tokL s).code = 0 ∧ (tokL s).rest = [] ∧ (tokL s).kind = k ∧ (tokL s).text = t ∧ (tokL s).n = n
theorem tok_rest_run {c : UInt8} {l : List UInt8} (hc : isRunB c = true) (h : (tokL (c :: l)).rest = []) : (c :: l).all isRunB = true := by
  unfold tokL at h
  dsimp only at h
  rw [if_pos hc] at h
  have : (clsL (c :: l.takeWhile isRunB) (l.dropWhile isRunB)).rest = l.dropWhile isRunB := by unfold clsL; split <;> rfl
  rw [this] at h
  rw [List.all_cons, hc, dw_nil h]; rfl
theorem isRun_of_dig {c : UInt8} (h : isDig c = true) : isRunB c = true := by
  unfold isDig at h; unfold isRunB
  rw [beq_iff_eq] at h
  rw [h]; rfl
theorem numS_run (n : Nat) : (numS n).all isRunB = true ∧ numS n ≠ [] := by
  obtain ⟨a, _, c, _, _⟩ := dec_spec (n / 1000)
  obtain ⟨f1, _⟩ := cut_fin ⟨n % 1000, Nat.mod_lt _ (by decide)⟩
  dsimp only at f1
  have h1 : (Lib.decDigits (n / 1000)).all isRunB = true := List.all_eq_true.2 fun x hx => isRun_of_dig (dig_of (a x hx))
  have h2 : (cutZ (three (n % 1000))).all isRunB = true := List.all_eq_true.2 fun x hx => isRun_of_dig (List.all_eq_true.1 f1 x hx)
  unfold numS
  refine ⟨?_, by intro h; exact c (List.append_eq_nil_iff.1 h).1⟩
  rw [List.all_append, h1, Bool.true_and]
  split
  · rfl
  · rw [List.all_cons, h2]; rfl
theorem numS_len (n : Nat) (hn : n ≤ 1000000000) : (numS n).length ≤ 12 := by
  have h := dec_len (n / 1000) (by omega)
  obtain ⟨_, f2, _⟩ := cut_fin ⟨n % 1000, Nat.mod_lt _ (by decide)⟩
  dsimp only at f2
  unfold numS
  rw [List.length_append]
  split
  · simp; omega
  · rw [List.length_cons]; omega
theorem wordL_zero {t : List UInt8} (h : wordL t = 0) : t ≠ [] ∧ t.length ≤ 32 ∧ t.any isLet = true := by
  unfold wordL at h
  by_cases hd : t.any isDot = true
  · rw [if_pos hd] at h; cases h
  · rw [if_neg hd] at h
    by_cases hl : t.any isLet = true
    · rw [if_pos hl] at h
      by_cases h32 : 32 < t.length
      · rw [if_pos h32] at h; cases h
      · refine ⟨?_, by omega, hl⟩
        intro e; subst e; cases hl
    · rw [if_neg hl] at h; cases h
theorem titleL_zero {t : List UInt8} (h : titleL t = 0) : t ≠ [] ∧ t.length ≤ 40 ∧ t.all inStr = true := by
  unfold titleL at h
  by_cases h1 : t = [] ∨ t.head? = some 32 ∨ t.getLast? = some 32
  · rw [if_pos h1] at h; cases h
  · rw [if_neg h1] at h
    by_cases h2 : t.any badT = true
    · rw [if_pos h2] at h; cases h
    · rw [if_neg h2] at h
      by_cases h3 : 40 < t.length
      · rw [if_pos h3] at h; cases h
      · refine ⟨fun e => h1 (.inl e), by omega, ?_⟩
        rw [List.all_eq_true]
        intro x hx
        have hb : badT x = false := by
          cases hb : badT x with
          | false => rfl
          | true => exact absurd (List.any_eq_true.2 ⟨x, hx, hb⟩) h2
        unfold badT at hb
        simp only [Bool.or_eq_false_iff, decide_eq_false_iff_not, beq_eq_false_iff_ne] at hb
        unfold inStr
        simp only [Bool.and_eq_true, bne_iff_ne]
        omega
theorem tok_quote (t : List UInt8) (h : t.all inStr = true) : tokL (34 :: t ++ [34]) = ⟨3, t, 0, [], titleL t⟩ := by
  have e : tokL (34 :: t ++ [34]) = textL (t ++ [34]) := by
    have hr : isRunB 34 = false := by decide
    have : tokL (34 :: (t ++ [34])) = textL (t ++ [34]) := by
      unfold tokL; dsimp only; rw [if_neg (by simp [hr]), if_pos (by rfl)]
    exact this
  obtain ⟨h1, h2⟩ := tw_all h
  have t1 : (t ++ [34]).takeWhile inStr = t := by
    rw [List.takeWhile_append, if_pos (by rw [h1]), List.takeWhile_cons_of_neg (by decide), List.append_nil]
  have t2 : (t ++ [34]).dropWhile inStr = [34] := by
    rw [List.dropWhile_append, if_pos (by rw [h2]; rfl), List.dropWhile_cons_of_neg (by decide)]
  rw [e]
  unfold textL
  rw [t1, t2]
  rfl
/-- A valid token's spelling is read as that token. -/
theorem reads_of_valid {k n : Int} {t : List UInt8} (h : validB k t n = true) (h5 : k ≠ 5) : readsAs k t n (spellS k t n) ∧ spellS k t n ≠ [] ∧ (spellS k t n).length ≤ 60 := by
  unfold validB at h
  by_cases hn : k ≠ 2 ∧ n ≠ 0
  · rw [if_pos hn] at h; cases h
  · rw [if_neg hn] at h
    by_cases h1 : k = 1
    · subst h1
      obtain rfl : n = 0 := by omega
      rw [if_pos rfl, Bool.and_eq_true, beq_iff_eq] at h
      obtain ⟨g1, g2, g3⟩ := wordL_zero h.2
      have e : spellS 1 t 0 = t := by simp [spellS]
      rw [e]
      refine ⟨?_, g1, by omega⟩
      unfold readsAs
      rw [tok_run t g1 h.1]
      unfold clsL
      rw [if_pos (let_num t g3), h.2]
      exact ⟨rfl, rfl, rfl, rfl, rfl⟩
    · rw [if_neg h1] at h
      by_cases h2 : k = 2
      · subst h2
        rw [if_pos rfl, Bool.and_eq_true, Bool.and_eq_true, decide_eq_true_eq, decide_eq_true_eq, beq_iff_eq] at h
        obtain ⟨⟨rfl, g0⟩, g1⟩ := h
        obtain ⟨m, rfl⟩ : ∃ m : Nat, n = (m : Int) := ⟨n.toNat, by omega⟩
        have e : spellS 2 [] (m : Int) = numS m := by
          unfold spellS
          rw [if_neg (by decide), if_pos rfl, if_pos ⟨g0, g1⟩]; rfl
        obtain ⟨r1, r2⟩ := numS_run m
        have hl := numS_len m (by omega)
        rw [e]
        refine ⟨?_, r2, by omega⟩
        unfold readsAs
        rw [tok_run _ r2 r1]
        unfold clsL
        rw [numL_numS m (by omega), if_neg (show ¬ (0 : Int) = 2 by decide)]
        exact ⟨rfl, rfl, rfl, rfl, rfl⟩
      · rw [if_neg h2] at h
        obtain rfl : n = 0 := by omega
        by_cases h3 : k = 3
        · subst h3
          rw [if_pos rfl, beq_iff_eq] at h
          obtain ⟨g1, g2, g3⟩ := titleL_zero h
          have e : spellS 3 t 0 = 34 :: t ++ [34] := by simp [spellS]
          rw [e]
          refine ⟨?_, by simp, by simp; omega⟩
          unfold readsAs
          rw [tok_quote t g3]
          exact ⟨h, rfl, rfl, rfl, rfl⟩
        · rw [if_neg h3] at h
          by_cases h4 : k = 4
          · subst h4
            rw [if_pos rfl, Bool.and_eq_true, beq_iff_eq] at h
            have e : spellS 4 t 0 = t := by simp [spellS]
            rw [e]
            match t, h with
            | [c], h =>
              have hc : kindOf c.toNat = 5 := by simpa using h.2
              refine ⟨?_, by simp, by simp⟩
              unfold readsAs
              have h34 : c.toNat ≠ 34 := by have := kind5 c.toNat; omega
              have : tokL [c] = ⟨4, [c], 0, [], 0⟩ := by
                unfold tokL; dsimp only
                rw [if_neg (by simp [isRunB, hc]), if_neg h34, if_pos hc]
              rw [this]
              exact ⟨rfl, rfl, rfl, rfl, rfl⟩
          · rw [if_neg h4, if_neg h5] at h; cases h
/-- What reads as a token is a valid one. -/
theorem valid_of_reads {k n : Int} {t : List UInt8} (hs : spellS k t n ≠ []) (h : readsAs k t n (spellS k t n)) (h5 : k ≠ 5) : validB k t n = true := by
  obtain ⟨hc, hr, hk, ht, hn⟩ := h
  unfold spellS at hs hc hr hk ht hn
  by_cases h3 : k = 3
  · subst h3
    rw [if_pos rfl] at hc hr hk ht hn
    have e : tokL (34 :: t ++ [34]) = textL (t ++ [34]) := by
      have hr : isRunB 34 = false := by decide
      have : tokL (34 :: (t ++ [34])) = textL (t ++ [34]) := by
        unfold tokL; dsimp only; rw [if_neg (by simp [hr]), if_pos (by rfl)]
      exact this
    have hall : t.all inStr = true := by
      rw [e] at ht hc
      unfold textL at ht hc
      have key : (t ++ [34]).takeWhile inStr = t := by
        revert ht hc
        split
        · intro hc; cases hc
        · split
          · intro _ ht; exact ht
          · intro hc; cases hc
      rw [List.all_eq_true]
      intro x hx
      rw [← key] at hx
      exact List.all_eq_true.1 List.all_takeWhile x hx
    rw [tok_quote t hall] at hc hn
    unfold validB
    rw [if_neg (by rintro ⟨_, h⟩; exact h hn.symm), if_neg (by decide), if_neg (by decide), if_pos rfl, beq_iff_eq]
    exact hc
  · rw [if_neg h3] at hs hc hr hk ht hn
    by_cases h2 : k = 2
    · subst h2
      rw [if_pos rfl] at hs hc hr hk ht hn
      by_cases hx : 0 ≤ n ∧ n ≤ 1000000000
      · rw [if_pos hx] at hs hc hr hk ht hn
        obtain ⟨m, rfl⟩ : ∃ m : Nat, n = (m : Int) := ⟨n.toNat, by omega⟩
        rw [Int.toNat_natCast] at hc ht
        obtain ⟨r1, r2⟩ := numS_run m
        rw [tok_run _ r2 r1] at ht
        unfold clsL at ht
        rw [numL_numS m (by omega), if_neg (show ¬ (0 : Int) = 2 by decide)] at ht
        unfold validB
        rw [if_neg (by rintro ⟨h, _⟩; exact h rfl), if_neg (by decide), if_pos rfl, ← ht]
        simp [hx.1, hx.2]
      · rw [if_neg hx] at hs; exact absurd rfl hs
    · rw [if_neg h2] at hs hc hr hk ht hn
      by_cases h14 : k = 1 ∨ k = 4
      · rw [if_pos h14] at hs hc hr hk ht hn
        cases t with
        | nil => exact absurd rfl hs
        | cons c l =>
          by_cases hrun : isRunB c = true
          · have hall := tok_rest_run hrun hr
            rw [tok_run _ (by simp) hall] at hc hk hn
            unfold clsL at hc hk hn
            by_cases hnum : (numL (c :: l)).2 = 2
            · rw [if_pos hnum] at hc hk hn
              dsimp only at hc hk hn
              subst hk hn
              unfold validB
              rw [if_neg (by rintro ⟨_, h⟩; exact h rfl), if_pos rfl, hall, hc]; rfl
            · rw [if_neg hnum] at hk
              dsimp only at hk
              omega
          · have hrun' : isRunB c = false := by simpa using hrun
            by_cases h34 : c.toNat = 34
            · exfalso
              have e : tokL (c :: l) = textL l := by
                unfold tokL; dsimp only; rw [if_neg hrun, if_pos h34]
              rw [e] at hk hc
              unfold textL at hk hc
              revert hk hc
              split
              · intro hc; cases hc
              · split
                · intro _ hk; dsimp only at hk; omega
                · intro hc; cases hc
            · by_cases h5' : kindOf c.toNat = 5
              · have e : tokL (c :: l) = ⟨4, [c], 0, l, 0⟩ := by
                  unfold tokL; dsimp only; rw [if_neg hrun, if_neg h34, if_pos h5']
                rw [e] at hr hk hn
                dsimp only at hr hk hn
                subst hr hk hn
                unfold validB
                rw [if_neg (by rintro ⟨_, h⟩; exact h rfl), if_neg (by decide), if_neg (by decide), if_neg (by decide), if_pos rfl]
                simp [h5']
              · exfalso
                have e : tokL (c :: l) = ⟨0, [], 0, [], 2⟩ := by
                  unfold tokL; dsimp only; rw [if_neg hrun, if_neg h34, if_neg h5']
                rw [e] at hc
                cases hc
      · rw [if_neg h14] at hs; exact absurd rfl hs
theorem rvalid_f (k0 : Int) (s : ByteArray) (hs : s.size ≤ 100000) (n a : Int) : Ev (fun k => salchowref09_Valid.f k k0 s n a) (validB k0 (lst s) n) := by
  unfold salchowref09_Valid.f
  by_cases h5 : k0 = 5
  · subst h5
    refine Ev.ifp rfl (Ev.ret ?_)
    rw [toList_lst]
    unfold validB
    by_cases hn : n = 0
    · subst hn; simp
    · rw [if_pos ⟨by decide, hn⟩]; simp [hn]
  · refine Ev.ifn h5 (Ev.bind (rSpell_f k0 s (by omega) n 0) ?_)
    have hlen : (spellS k0 (lst s) n).length ≤ 200000 := by
      unfold spellS
      (repeat' split)
      · simp [lst_length]; omega
      · rename_i h
        have := numS_len n.toNat (by omega)
        omega
      · simp
      · rw [lst_length]; omega
      · simp
    rw [size_str]
    by_cases h0 : ((spellS k0 (lst s) n).length : Int) = 0
    · refine Ev.ifp h0 (Ev.ret ?_)
      cases hv : validB k0 (lst s) n with
      | false => rfl
      | true =>
        have := (reads_of_valid hv h5).2.1
        exact absurd (List.length_eq_zero_iff.1 (by omega)) this
    · refine Ev.ifn h0 ?_
      by_cases h60 : ((spellS k0 (lst s) n).length : Int) > 60
      · refine Ev.ifp h60 (Ev.ret ?_)
        cases hv : validB k0 (lst s) n with
        | false => rfl
        | true =>
          have := (reads_of_valid hv h5).2.2
          omega
      · refine Ev.ifn h60 ?_
        have ht := rtoken_f (str (spellS k0 (lst s) n)) (by rw [size_str]; omega) 0 (spellS k0 (lst s) n) (by omega) rfl
        refine Ev.bind ht ?_
        rw [size_str]
        have hne : spellS k0 (lst s) n ≠ [] := by intro e; rw [e] at h0; simp at h0
        unfold tokT
        by_cases hc : (tokL (spellS k0 (lst s) n)).code = 0
        · rw [if_pos hc]
          refine Ev.ifp rfl ?_
          by_cases hr : (tokL (spellS k0 (lst s) n)).rest = []
          · rw [hr]
            refine Ev.ifp (by simp) (Ev.ret ?_)
            cases hv : validB k0 (lst s) n with
            | true =>
              obtain ⟨⟨_, _, g1, g2, g3⟩, _⟩ := reads_of_valid hv h5
              rw [g1, g2, g3]
              simp [toList_lst]
            | false =>
              rw [Bool.eq_false_iff]
              intro hx
              simp only [Bool.and_eq_true, beq_iff_eq, toList_lst, lst_str] at hx
              have := valid_of_reads hne ⟨hc, hr, hx.1, hx.2.1, hx.2.2.1⟩ h5
              rw [hv] at this; cases this
          · refine Ev.ifn ?_ (Ev.ret ?_)
            · have := List.length_pos_iff.2 hr
              dsimp only
              omega
            · cases hv : validB k0 (lst s) n with
              | false => rfl
              | true => exact absurd (reads_of_valid hv h5).1.2.1 hr
        · rw [if_neg hc]
          refine Ev.ifn hc (Ev.ret ?_)
          cases hv : validB k0 (lst s) n with
          | false => rfl
          | true => exact absurd (reads_of_valid hv h5).1.1 hc
end Go.Proofs.YtkifdadhojbohaaDoor.Pu
namespace Go.Proofs.YtkifdadhojbohaaDoor.Pu
open Go.RowKit Go.Proofs.YtkifdadhojbohaaDoor Go.Proofs.YtkifdadhojbohaaDoor.Pr Go.Proofs.YtkifdadhojbohaaDoorW.PrintWords Go.Proofs.YtkifdadhojbohaaDoorW.PrintLast
theorem Ev.const {α : Type} {x : Option α} {r : α} (h : x = some r) : Ev (fun _ => x) r := by subst h; exact Ev.now r
theorem Spell_num (m : Nat) (hm : m ≤ 1000000000) (f : ByteArray → ByteArray → Option (ByteArray × Int)) (hf : f (str (Lib.decDigits (m / 1000))) (str (cutZ (three (m % 1000)))) = some (str (numS m), 0)) :
    ((strconv_FormatInt.f (wrap64 ((m : Int) + 1000)) 10).bind fun t360 => ((strconv_FormatInt.f (wrap64 (Int.tdiv (m : Int) 1000)) 10).bind fun t361 => (if 0 ≤ (wrap64 ((t360.size : Int) - 3)) then (if (wrap64 ((t360.size : Int) - 3)) ≤ (t360.size : Int) then ((strings_TrimRight.f (t360.extract ((wrap64 ((t360.size : Int) - 3)) : Int).toNat t360.size) (⟨#[48]⟩ : ByteArray)).bind fun t362 => f t361 t362) else (none)) else (none)))) = some (str (numS m), 0) := by
  have e1 : wrap64 (Int.tdiv (m : Int) 1000) = ((m / 1000 : Nat) : Int) := by
    rw [show Int.tdiv (m : Int) 1000 = ((m / 1000 : Nat) : Int) from rfl, wrap64_of (by omega) (by omega)]
  have e2 : wrap64 ((m : Int) + 1000) = (((m / 1000 + 1) * 1000 + m % 1000 : Nat) : Int) := by
    rw [wrap64_of (by omega) (by omega)]; omega
  have hl := dec_len (m / 1000 + 1) (by omega)
  have hl2 := (dec_spec (m / 1000 + 1)).2.2.1
  rw [e1, e2, fmt_f _ (by omega), fmt_f _ (by omega), dec_thousand _ (by omega) _ (by omega)]
  simp only [Option.bind_some]
  have hsz : (str (Lib.decDigits (m / 1000 + 1) ++ three (m % 1000))).size = (Lib.decDigits (m / 1000 + 1)).length + 3 := by
    rw [size_str, List.length_append]; rfl
  rw [hsz, wrap64_of (by omega) (by omega), show (((Lib.decDigits (m / 1000 + 1)).length + 3 : Nat) : Int) - 3 = ((Lib.decDigits (m / 1000 + 1)).length : Int) by omega, if_pos (by omega), if_pos (by omega), Int.toNat_natCast]
  have hx : (str (Lib.decDigits (m / 1000 + 1) ++ three (m % 1000))).extract (Lib.decDigits (m / 1000 + 1)).length ((Lib.decDigits (m / 1000 + 1)).length + 3) = str (three (m % 1000)) := by
    apply lst_inj
    rw [lst_extract, lst_str, lst_str, List.take_of_length_le (by rw [List.length_append]; exact Nat.le_refl _), List.drop_left]
  rw [hx]
  have ht : strings_TrimRight.f (str (three (m % 1000))) (⟨#[48]⟩ : ByteArray) = some (str (cutZ (three (m % 1000)))) := by
    unfold strings_TrimRight.f
    rw [if_pos ⟨rfl, by rw [size_str]; simp [three]⟩]
    rfl
  rw [ht]
  exact hf
theorem Spell_f (k0 : Int) (s : ByteArray) (hs : s.size ≤ 1000000) (n a : Int) : Ev (fun k => lexer_Spell.f k k0 s n a) (if validB k0 (lst s) n = true then (str (spellS k0 (lst s) n), 0) else (⟨#[]⟩, 1)) := by
  unfold lexer_Spell.f
  refine Ev.bind (valid_f k0 s hs n a) ?_
  cases hv : validB k0 (lst s) n with
  | false => exact Ev.ifn (by simp) (Ev.ret (by simp))
  | true =>
    refine Ev.ifp rfl ?_
    rw [if_pos rfl]
    by_cases h3 : k0 = 3
    · subst h3
      refine Ev.ifp rfl (Ev.ifp (by omega) (Ev.ifp ?_ (Ev.ret ?_)))
      · rw [ByteArray.size_append]; show 1 + s.size + 1 ≤ _; omega
      · congr 1
    · refine Ev.ifn h3 ?_
      by_cases h2 : k0 = 2
      · subst h2
        refine Ev.ifp rfl ?_
        have hv2 := hv
        unfold validB at hv2
        rw [if_neg (by rintro ⟨h, _⟩; exact h rfl), if_neg (by decide), if_pos rfl, Bool.and_eq_true, Bool.and_eq_true, decide_eq_true_eq, decide_eq_true_eq, beq_iff_eq] at hv2
        obtain ⟨⟨h0, g0⟩, g1⟩ := hv2
        obtain ⟨m, rfl⟩ : ∃ m : Nat, n = (m : Int) := ⟨n.toNat, by omega⟩
        have e : spellS 2 (lst s) (m : Int) = numS m := by
          unfold spellS
          rw [if_neg (by decide), if_pos rfl, if_pos ⟨g0, g1⟩]; rfl
        rw [e]
        have hl := numS_len m (by omega)
        refine Ev.const (Spell_num m (by omega) _ ?_)
        have hlen : (numS m).length = (Lib.decDigits (m / 1000)).length + (if cutZ (three (m % 1000)) = [] then 0 else (cutZ (three (m % 1000))).length + 1) := by
          unfold numS; rw [List.length_append]; split <;> simp
        by_cases hz : cutZ (three (m % 1000)) = []
        · rw [if_pos (by rw [toList_lst, lst_str]; exact hz)]
          unfold numS; rw [if_pos hz, List.append_nil]
        · rw [if_neg hz] at hlen
          rw [if_neg (by rw [toList_lst, lst_str]; exact hz), show (⟨#[46]⟩ : ByteArray) = str [46] from rfl, str_append, str_append, size_str, size_str, size_str, if_pos (by omega), if_pos (by rw [List.length_append]; simp; omega)]
          unfold numS; rw [if_neg hz]; simp
      · refine Ev.ifn h2 (Ev.ret ?_)
        unfold spellS
        rw [if_neg h3, if_neg h2]
        by_cases h14 : k0 = 1 ∨ k0 = 4
        · rw [if_pos h14, str_lst]
        · rw [if_neg h14]
          have hv2 := hv
          unfold validB at hv2
          by_cases hn : k0 ≠ 2 ∧ n ≠ 0
          · rw [if_pos hn] at hv2; cases hv2
          · rw [if_neg hn, if_neg (fun h => h14 (.inl h)), if_neg h2, if_neg h3, if_neg (fun h => h14 (.inr h))] at hv2
            by_cases h5 : k0 = 5
            · rw [if_pos h5, beq_iff_eq] at hv2
              congr 1
              apply lst_inj; rw [hv2]; rfl
            · rw [if_neg h5] at hv2; cases hv2
theorem skip_tok (c : UInt8) (l : List UInt8) (h : (tokL (c :: l)).code = 0) : skipL false (c :: l) = c :: l := by
  have hno : c.toNat ≠ 35 ∧ kindOf c.toNat ≠ 1 := by
    by_cases hr : isRunB c = true
    · have := run_no hr; exact ⟨this.2.2.1, this.2.2.2⟩
    · by_cases h34 : c.toNat = 34
      · rw [h34]; exact ⟨by decide, by decide⟩
      · by_cases h5 : kindOf c.toNat = 5
        · have h1 := kind5 c.toNat
          exact ⟨by omega, by omega⟩
        · exfalso
          have e : tokL (c :: l) = ⟨0, [], 0, [], 2⟩ := by
            unfold tokL; dsimp only; rw [if_neg hr, if_neg h34, if_neg h5]
          rw [e] at h; cases h
  unfold skipL
  rw [if_neg hno.1, if_neg hno.2]
/-- A spelling alone in a source. -/
theorem lex_one {k n : Int} {t : List UInt8} (h : validB k t n = true) (h5 : k ≠ 5) (f : Nat) : lexL (f + 2) (spellS k t n) = .ok [⟨k, t, n, (spellS k t n).length⟩, ⟨5, [], 0, 0⟩] := by
  obtain ⟨⟨hc, hr, hk, ht, hn⟩, hne, _⟩ := reads_of_valid h h5
  cases hx : spellS k t n with
  | nil => exact absurd hx hne
  | cons c l =>
    rw [hx] at hc hr hk ht hn
    have hs := skip_tok c l hc
    unfold lexL
    dsimp only
    rw [hs, if_neg (by rw [hc]; simp), if_neg (by simp), hr, hk, ht, hn]
    rfl
theorem lexerSpells (k0 : Int) (s : ByteArray) (n a : Int) : ∃ k, salchowlaw09_LexerSpells.f k k0 s n a = some true := by
  apply Ev.rounds
  unfold salchowlaw09_LexerSpells.f
  by_cases hs : (s.size : Int) > 100
  · exact Ev.ifp hs (Ev.bind awake_f (Ev.now _))
  · refine Ev.ifn hs (Ev.bind (Spell_f k0 s (by omega) n a) (Ev.bind (valid_f k0 s (by omega) n a) (Ev.bind (rvalid_f k0 s (by omega) n a) (Ev.ifn (by simp) (Ev.bind (rvalid_f k0 s (by omega) n a) ?_)))))
    cases hv : validB k0 (lst s) n with
    | false =>
      refine Ev.ifn (by simp) (Ev.bind awake_f (Ev.ifp rfl ?_))
      simp only [Bool.false_eq_true, if_false]
      exact Ev.ifp (by simp) (Ev.ret (by rw [toList_lst]; rfl))
    | true =>
      refine Ev.ifp rfl ?_
      rw [if_pos rfl]
      dsimp only
      by_cases h5 : k0 = 5
      · subst h5
        have hv2 := hv
        unfold validB at hv2
        by_cases hn : (5 : Int) ≠ 2 ∧ n ≠ 0
        · rw [if_pos hn] at hv2; cases hv2
        · rw [if_neg hn, if_neg (by decide), if_neg (by decide), if_neg (by decide), if_neg (by decide), if_pos rfl, beq_iff_eq] at hv2
          have e : spellS 5 (lst s) n = [] := by
            unfold spellS
            rw [if_neg (by decide), if_neg (by decide), if_neg (by decide)]
          rw [e]
          have h := Lex_f (str []) (by rw [size_str]; simp)
          refine Ev.bind h (Ev.ifp rfl (Ev.bind awake_f (Ev.ifp rfl (Ev.ifp rfl (Ev.ret (by rw [toList_lst]; simp))))))
      · obtain ⟨_, hne, h60⟩ := reads_of_valid hv h5
        have h := Lex_f (str (spellS k0 (lst s) n)) (by rw [size_str]; omega)
        have hp := List.length_pos_iff.2 hne
        rw [size_str, lst_str, lexL_fuel _ ((spellS k0 (lst s) n).length + 2) _ (by omega) (by omega), lex_one hv h5] at h
        refine Ev.bind h (Ev.ifn h5 (Ev.bind awake_f (Ev.ifp rfl (Ev.ifp rfl (Ev.bind (rSpell_f k0 s (by omega) n 0) (Ev.ifp rfl ?_))))))
        simp only [lexAns, List.nil_append, List.map_cons, List.map_nil]
        refine Ev.ifp (by simp) (Ev.ifp (by simp) (Ev.ifp (by simp) (Ev.ifp ?_ (Ev.ifp (by simp) (Ev.ret ?_)))))
        · simp [rd_T46, Tok.at_, toList_lst]
        · simp [rd_T46, Tok.at_]
end Go.Proofs.YtkifdadhojbohaaDoor.Pu
namespace Go.Proofs.YtkifdadhojbohaaDoor.lexerSpells
open Go.ChangeShapes Go.WideShapes Go.ChangeAt Go.RowKit Rk
open Go.ChangeMaps (open_string shut_string)
theorem c09 : (Rows.lexerSpellsRow.inPlace == Tryd.prog.inPlace 9) = true := by kernel_rfl
theorem c10 : (Rows.lexerSpellsRow.unfollowed == Tryd.prog.unfollowed 9) = true := by kernel_rfl
theorem c11 : (Rows.lexerSpellsRow.recurses == Tryd.prog.recurses 9) = true := by kernel_rfl
theorem c12 : (Rows.lexerSpellsRow.named == Tryd.prog.varsNamed 9) = true := by kernel_rfl
theorem facts : joinedFacts Tryd.prog 9 Tryd.f9 Rows.lexerSpellsSpec Rows.lexerSpellsRow = true :=
  facts_of _ _ _ _ _ (by kernel_rfl) out_ rowed_ (by kernel_rfl) (by kernel_rfl) rfl (by kernel_rfl) rfl (by kernel_rfl) c09 c10 c11 c12 (by kernel_rfl) (by kernel_rfl) (by kernel_rfl) (by kernel_rfl) (by kernel_rfl)
    (by kernel_rfl) (by kernel_rfl) (by kernel_rfl) (by kernel_rfl) (by kernel_rfl) (by kernel_rfl) heard_ enter_ (by kernel_rfl) (by kernel_rfl) (by kernel_rfl) (by kernel_rfl) (by kernel_rfl) (by kernel_rfl)
theorem goes : false = Rows.lexerSpellsRow.goesBy Tryd.prog := by kernel_rfl
set_option maxRecDepth 100000 in
theorem lifted (os : Os) (started : os.Started) (H : Type) (enc : TypeId × Value → H) :
    ReturnsInHanded {} Tryd.checked os 9 .any (fun w args => (Rows.lexerSpellsSpec.pre enc Tryd.prog Tryd.f9 [] false w args ∧ laidMetH Tryd.prog laidB w) ∧ sizedMet enc Tryd.prog Tryd.f9 (OpenSpec.ofChange Rows.lexerSpellsSpec) false w args)
      (Rows.lexerSpellsSpec.post enc Tryd.prog Tryd.f9 false true false false) := by
  refine returnsInHanded_of_change_and (C := Tryd.checked) (X := fun w _ => laidMetH Tryd.prog laidB w) (fun _ _ _ hh h => h.of_heap hh) own started (by kernel_rfl) Tryd.func9
    (ChangeSpec.witness_shaped (enc := enc) (C := Tryd.checked) (os := os) (X := fun w _ => laidMetH Tryd.prog laidB w) false (wB os) #[.agg #[.int .i64 0, .string ByteArray.empty, .int .i64 0, .int .i64 0]] 8 (World.laidAll_os _ _ _)
      (World.shaped_of_ZipB (by kernel_rfl) (by kernel_rfl)) (by kernel_rfl) (by kernel_rfl) (by kernel_rfl) (met_B os _)) ?_
  intro W base args ds gs before hval0 hW _ hsz0 hL _
  have hsz : (DataW.weightsEach Tryd.prog (Tryd.f9.params.toList ++ Rows.lexerSpellsSpec.plain.varTypes Tryd.prog) (ds ++ gs)).all (· ≤ reachBytes) = true := hsz0
  have hval : ∀ (j : Nat) t v, Tryd.f9.params[j]? = some t → args[j]? = some v → Value.okWide Tryd.prog W .any base t v := hval0
  have hW' := hW
  obtain ⟨p, q, hA0, hV, rfl, _, _⟩ := hW
  have hA : DataW.TrodAll enc Tryd.prog W 0 (fun _ => true) true Tryd.f9.params.toList args.toList ds p := hA0
  rw [Tryd.params9] at hA hval hsz
  obtain ⟨v0, vs0, d0, ds0, p0, q0, hargs, rfl, rfl, h0, r0⟩ := trodAll_cons hA
  obtain ⟨rfl, rfl, rfl⟩ := trodAll_nil r0
  obtain rfl : args = #[v0] := by cases args; simp_all
  obtain ⟨rfl, rfl⟩ := trodVars_none hV
  have k0 := h0
  have lt0 : ∀ x ∈ p0, x.block < W.heap.size := by obtain ⟨m, hm⟩ := k0; exact DataW.trod_lt m _ _ _ hm
  obtain ⟨c0, c1, c2, c3, y0, y1, y2, y3, m, rfl, rfl, rfl, t0, t1, t2, t3⟩ := Joins.open_agg4 Tryd.underlying46 (by kernel_rfl) (by kernel_rfl) (hval 0 46 v0 rfl rfl) h0
  obtain ⟨b0, e0, _, _⟩ := DataW.trod_int Tryd.underlying3 t0
  obtain ⟨b1, e1, _, _⟩ := DataW.trod_string Tryd.underlying9 t1
  obtain ⟨b2, e2, _, _⟩ := DataW.trod_int Tryd.underlying2 t2
  obtain ⟨b3, e3, _, _⟩ := DataW.trod_int Tryd.underlying3 t3
  obtain rfl : c0 = _ := (List.cons.inj e0).1
  obtain rfl : c1 = _ := (List.cons.inj e1).1
  obtain rfl : c2 = _ := (List.cons.inj e2).1
  obtain rfl : c3 = _ := (List.cons.inj e3).1
  clear hA0 hval0 hsz0 hsz
  obtain ⟨k, hk⟩ := Pu.lexerSpells b0 b1 b2 b3
  refine (Pr.salchowlaw09_LexerSpells.calls k b0 b1 b2 b3 true W (gl_B hL) hk).mono fun e W' ⟨he, bel⟩ => ?_
  subst he
  exact ⟨_, rfl, _, _, _, [], _, [], hW', trodAll_mk1 (shut_bool Tryd.underlying4 _), (trodAll_cons_mk (Below.trod out_ (by kernel_rfl) (of_decide_eq_true (by kernel_rfl)) k0 bel lt0) trodAll_mk0), rfl, bel.frame _, fun h => by cases h⟩
theorem over : Rows.lexerSpellsRow.holds Tryd.pinned (OpenSpec.ofChange Rows.lexerSpellsSpec) :=
  OpenClaim.holds_of_wide 9 Tryd.f9 rfl rfl rfl rfl rfl rfl rfl ⟨rfl, rfl, rfl, rfl, rfl⟩ rfl rfl rfl rfl rfl (by kernel_rfl) Tryd.func9 facts
    (of_decide_eq_true (by kernel_rfl)) (by unfold Func.isWrapper; first | (rw [if_pos (by decide +kernel)]; kernel_rfl) | (rw [if_neg (by decide +kernel)]; exact ⟨rfl, rfl⟩))
    (fun os started H enc _ => lifted os started H enc)
theorem card : Rows.LexerSpellsCardSaid :=
  Claim7.holds_tied_plain_at .later [] [.data, .data, .data, .data, .sentinel, .sentinel, .pinned] true (true, "74d2011260c70b611c86c4d3b7f5d11cc5fefff18c715f175ff3522b41f9dd0c") true
    over (fun _ h => by cases h) (by kernel_rfl) (fun _ h => by cases h) lexerSpells_row_tie rfl ⟨rfl, rfl⟩ mainIs_ rfl
    (fun f fn hf hfn => by
      obtain rfl : f = 9 := Option.some.inj ((show Tryd.prog.funcNamed "salchow/salchowlaw09.LexerSpells" = some 9 by kernel_rfl).symm.trans hf) |>.symm
      obtain rfl : fn = Tryd.f9 := (Option.some.inj (Tryd.func9.symm.trans hfn)).symm
      exact ⟨looks_, fun j t ht => by
        rw [Tryd.params9] at ht
        have hm : t ∈ [46] := by simpa using Array.mem_of_getElem? ht
        have hall : ([46].all fun u => !Tryd.prog.wantsStandIn u) = true := by kernel_rfl
        exact (show Tryd.prog.wantsStandIn t = false by simpa using List.all_eq_true.1 hall t hm)⟩)
    goes
#print axioms card
end Go.Proofs.YtkifdadhojbohaaDoor.lexerSpells
