/- Joined out of the texts of this proof that bear the names PvK GivB PvA PwE PxA PwF PwG PwH PwI: what each shows stands over it there. -/
import Derived.Test.YtkifdadhojbohaaDoorXc1
import Derived.Test.YtkifdadhojbohaaDoorXk1
import Derived.Test.YtkifdadhojbohaaDoorXb1
import Derived.Test.YtkifdadhojbohaaDoorXs1
import Derived.Test.YtkifdadhojbohaaDoorXa1
import Derived.Test.YtkifdadhojbohaaDoorXe1
import Derived.Test.YtkifdadhojbohaaDoorXw1
import Derived.Test.YtkifdadhojbohaaDoorXt1
import Derived.Lib.AppendIntMem
import Derived.Stop.LaidErr
import Derived.WalkSmall
set_option linter.unusedVariables false
set_option linter.unusedSimpArgs false
namespace Go.Proofs.YtkifdadhojbohaaDoor.Pu
open Go.RowKit Go.Proofs.YtkifdadhojbohaaDoor Go.Proofs.YtkifdadhojbohaaDoor.Pr Go.Proofs.YtkifdadhojbohaaDoorW.PrintWords Go.Proofs.YtkifdadhojbohaaDoorW.PrintLast
theorem kind1 (n : Nat) : kindOf n = 1 ↔ n = 32 ∨ n = 9 ∨ n = 10 ∨ n = 13 := by
  unfold kindOf
  constructor
  · intro h; (repeat' split at h) <;> omega
  · intro h; rw [if_pos h]
theorem kind2 (n : Nat) : kindOf n = 2 ↔ 97 ≤ n ∧ n ≤ 122 ∨ 65 ≤ n ∧ n ≤ 90 ∨ n = 95 := by
  unfold kindOf
  constructor
  · intro h; (repeat' split at h) <;> omega
  · intro h; rw [if_neg (by omega), if_pos h]
theorem kind3 (n : Nat) : kindOf n = 3 ↔ 48 ≤ n ∧ n ≤ 57 := by
  unfold kindOf
  constructor
  · intro h; (repeat' split at h) <;> omega
  · intro h; rw [if_neg (by omega), if_neg (by omega), if_pos h]
theorem kind4 (n : Nat) : kindOf n = 4 ↔ n = 46 := by
  unfold kindOf
  constructor
  · intro h; (repeat' split at h) <;> omega
  · intro h; subst h; decide
theorem kind5 (n : Nat) : kindOf n = 5 ↔ n = 40 ∨ n = 41 ∨ n = 43 ∨ n = 45 ∨ n = 42 ∨ n = 47 ∨ n = 44 ∨ n = 61 ∨ n = 59 ∨ n = 123 ∨ n = 125 := by
  unfold kindOf
  constructor
  · intro h; (repeat' split at h) <;> omega
  · intro h; rw [if_neg (by omega), if_neg (by omega), if_neg (by omega), if_neg (by omega), if_pos h]
theorem let_num (t : List UInt8) (h : t.any isLet = true) : (numL t).2 = 2 := by
  have hd : (t.take (t.findIdx (· == 46)) ++ t.drop (t.findIdx (· == 46) + 1)).all isDig = false := by
    rw [List.any_eq_true] at h
    obtain ⟨c, hc, hl⟩ := h
    have h2 : kindOf c.toNat = 2 := by
      simp only [isLet, Bool.and_eq_true, beq_iff_eq] at hl; exact hl.1
    have hdc : isDig c = false := by simp [isDig, h2]
    have hin : c ∈ t.take (t.findIdx (· == 46)) ++ t.drop (t.findIdx (· == 46) + 1) := by
      rw [List.mem_iff_getElem] at hc
      obtain ⟨j, hj, rfl⟩ := hc
      rw [List.mem_append]
      by_cases a : j < t.findIdx (· == 46)
      · left
        rw [List.mem_iff_getElem]
        exact ⟨j, by rw [List.length_take]; omega, by rw [List.getElem_take]⟩
      · by_cases b : j = t.findIdx (· == 46)
        · exfalso
          have hx := List.findIdx_getElem (xs := t) (p := (· == 46)) (w := by rw [← b]; exact hj)
          simp only [← b] at hx
          rw [beq_iff_eq] at hx
          rw [hx] at h2
          exact absurd h2 (by decide)
        · right
          rw [List.mem_iff_getElem]
          refine ⟨j - (t.findIdx (· == 46) + 1), by rw [List.length_drop]; omega, ?_⟩
          rw [List.getElem_drop]
          congr 1
          omega
    cases hx : (t.take (t.findIdx (· == 46)) ++ t.drop (t.findIdx (· == 46) + 1)).all isDig with
    | false => rfl
    | true => have := (List.all_eq_true.1 hx) c hin; rw [hdc] at this; cases this
  unfold numL
  dsimp only
  split
  · rfl
  · first | rfl | rw [if_pos hd]
end Go.Proofs.YtkifdadhojbohaaDoor.Pu
namespace Go.Proofs.YtkifdadhojbohaaDoor
open Go.RowKit Go.Proofs.YtkifdadhojbohaaDoorW.PrintWords
set_option linter.unusedVariables false
def strings_TrimRight.f (s cut : ByteArray) : Option ByteArray := if cut.data.toList = [48] ∧ s.size ≤ 9223372036854775807 then some ⟨(Lib.trimRightB s.data.toList 48).toArray⟩ else none
theorem strings_TrimRight.calls (a0 a1 : ByteArray) (r : ByteArray) (w : World) (h : strings_TrimRight.f a0 a1 = some r) :
    Calls Tryd.prog 62 #[.string a0, .string a1] w fun e w' => e = .returned (.string r) ∧ Below w.heap.size w w' := by
  unfold strings_TrimRight.f at h
  split at h
  · rename_i h1
    obtain ⟨h1, h2⟩ := h1
    obtain rfl : a1 = ⟨#[48]⟩ := by
      cases a1 with
      | mk d => cases d; simp at h1; subst h1; rfl
    obtain rfl := Option.some.inj h
    exact (Tryd.strings_TrimRight_one a0 48 (by decide) w h2).mono fun e w' hh => ⟨hh.1, hh.2 ▸ Below.refl _ _⟩
  · cases h
/-- The laid table that strconv.FormatInt reads. -/
def Gl (w : World) : Prop := Lib.TabIs Tryd.prog w "internal/strconv.uint64pow10" .u64 Lib.pow10Tab ∧ 1 < w.heap.size
theorem Gl.below {w w' : World} (h : Gl w) (hb : Below w.heap.size w w') : Gl w' :=
  ⟨var?_below (g := 1) hb (by kernel_rfl) h.2 h.1, Nat.lt_of_lt_of_le h.2 hb.size⟩
theorem Gl.drawn {w w' : World} (h : Gl w) (hb : Drawn0 w w') : Gl w' := h.below hb.below
def strconv_FormatInt.f (n base : Int) : Option ByteArray := if base = 10 ∧ 0 ≤ n ∧ n ≤ 9223372036854775807 then some ⟨(Lib.decDigits n.toNat).toArray⟩ else none
theorem strconv_FormatInt.calls (a0 a1 : Int) (r : ByteArray) (w : World) (hG : Gl w) (h : strconv_FormatInt.f a0 a1 = some r) :
    Calls Tryd.prog 61 #[.int .i64 a0, .int .i64 a1] w fun e w' => e = .returned (.string r) ∧ Below w.heap.size w w' := by
  unfold strconv_FormatInt.f at h
  split at h
  · rename_i h1
    obtain ⟨rfl, h2, h3⟩ := h1
    obtain rfl := Option.some.inj h
    refine (Tryd.strconv_FormatInt_10 a0 (by omega) h3 w hG.1).mono fun e w' hh => ⟨?_, ?_⟩
    · rw [hh.1]; unfold Lib.itoa; rw [if_neg (by omega)]
    · obtain ⟨k, os, rfl⟩ := hh.2
      exact Lib.below_grow _ w (Nat.le_refl _) k os
  · cases h
def strings_Count.f (s sub : ByteArray) : Option Int := if sub.data.toList = [10] then some ((Lib.countByte s.data.toList 10 : Nat) : Int) else none
theorem strings_Count.calls (a0 a1 : ByteArray) (r : Int) (w : World) (h : strings_Count.f a0 a1 = some r) :
    Calls Tryd.prog 68 #[.string a0, .string a1] w fun e w' => e = .returned (.int .i64 r) ∧ Below w.heap.size w w' := by
  unfold strings_Count.f at h
  split at h
  · rename_i h1
    obtain rfl : a1 = ⟨#[10]⟩ := by
      cases a1 with
      | mk d => cases d; simp at h1; subst h1; rfl
    obtain rfl := Option.some.inj h
    exact (Tryd.strings_Count_one a0 10 w).mono fun e w' hh => ⟨hh.1, hh.2 ▸ Below.refl _ _⟩
  · cases h
def strings_LastIndexByte.f (s : ByteArray) (c : Int) : Option Int := if s.size < 4611686018427387904 then some (Lib.lastIndexByte s c) else none
theorem strings_LastIndexByte.calls (a0 : ByteArray) (a1 : Int) (r : Int) (w : World) (h : strings_LastIndexByte.f a0 a1 = some r) :
    Calls Tryd.prog 69 #[.string a0, .int .u8 a1] w fun e w' => e = .returned (.int .i64 r) ∧ Below w.heap.size w w' := by
  unfold strings_LastIndexByte.f at h
  split at h
  · rename_i h1
    obtain rfl := Option.some.inj h
    exact (Tryd.strings_LastIndexByte a0 a1 h1 w).mono fun e w' hh => ⟨hh.1, hh.2 ▸ Below.refl _ _⟩
  · cases h
end Go.Proofs.YtkifdadhojbohaaDoor
namespace Go.Proofs.YtkifdadhojbohaaDoor.Pu
open Go.RowKit Go.Proofs.YtkifdadhojbohaaDoor Go.Proofs.YtkifdadhojbohaaDoor.Pr Go.Proofs.YtkifdadhojbohaaDoorW.PrintWords Go.Proofs.YtkifdadhojbohaaDoorW.PrintLast
theorem dig_nat {d : Nat} (h : d < 10) : (UInt8.ofNat (48 + d)).toNat = 48 + d := by
  rw [UInt8.toNat_ofNat']; omega
theorem val_append (a b : List UInt8) : digitsVal (a ++ b) = b.foldl (fun n c => n * 10 + (c.toNat - 48)) (digitsVal a) := by
  simp [digitsVal, List.foldl_append]
/-- The numeral of u: digits, not empty, no nought ahead, and its value. -/
theorem dec_spec (u : Nat) : (∀ c ∈ Lib.decDigits u, 48 ≤ c.toNat ∧ c.toNat ≤ 57) ∧ digitsVal (Lib.decDigits u) = u ∧ Lib.decDigits u ≠ [] ∧ (10 ≤ u → (Lib.decDigits u).head? ≠ some 48) ∧ (1 ≤ u → (Lib.decDigits u).head? ≠ some 48) := by
  induction u using Nat.strongRecOn with
  | _ u ih =>
    by_cases h : u < 10
    · rw [Lib.decDigits_one h]
      have hd := dig_nat h
      refine ⟨?_, ?_, by simp, by omega, ?_⟩
      · intro c hc
        rw [List.mem_singleton] at hc
        rw [hc, hd]; omega
      · simp only [digitsVal, List.foldl_cons, List.foldl_nil]
        rw [hd]; omega
      · intro h1 he
        simp only [List.head?_cons, Option.some.injEq] at he
        have := congrArg UInt8.toNat he
        rw [hd] at this
        have h2 : (48 : UInt8).toNat = 48 := rfl
        omega
    · obtain ⟨a, b, c, _, e⟩ := ih (u / 10) (by omega)
      have hd : (UInt8.ofNat (48 + u % 10)).toNat = 48 + u % 10 := dig_nat (by omega)
      have hh : (Lib.decDigits u).head? = (Lib.decDigits (u / 10)).head? := by
        rw [Lib.decDigits, dif_neg h]
        cases hx : Lib.decDigits (u / 10) with
        | nil => exact absurd hx c
        | cons y ys => rfl
      refine ⟨?_, ?_, ?_, ?_, ?_⟩
      · intro x hx
        rw [Lib.decDigits, dif_neg h] at hx
        rcases List.mem_append.1 hx with hx | hx
        · exact a x hx
        · rw [List.mem_singleton] at hx
          rw [hx, hd]; omega
      · rw [Lib.decDigits, dif_neg h, val_append, b]
        simp only [List.foldl_cons, List.foldl_nil]
        rw [hd]; omega
      · rw [Lib.decDigits, dif_neg h]; simp
      · intro _; rw [hh]; exact e (by omega)
      · intro _; rw [hh]; exact e (by omega)
/-- Three digits. -/
def three (m : Nat) : List UInt8 := [UInt8.ofNat (48 + m / 100), UInt8.ofNat (48 + m / 10 % 10), UInt8.ofNat (48 + m % 10)]
theorem dec_thousand (m : Nat) (h : m < 1000) (q : Nat) (hq : 1 ≤ q) : Lib.decDigits (q * 1000 + m) = Lib.decDigits q ++ three m := by
  rw [Lib.decDigits, dif_neg (by omega), Lib.decDigits, dif_neg (by omega), Lib.decDigits, dif_neg (by omega)]
  rw [show (q * 1000 + m) / 10 / 10 / 10 = q by omega, show (q * 1000 + m) / 10 / 10 % 10 = m / 100 by omega, show (q * 1000 + m) / 10 % 10 = m / 10 % 10 by omega, show (q * 1000 + m) % 10 = m % 10 by omega]
  simp [three]
/-- Without the noughts at the end. -/
def cutZ (l : List UInt8) : List UInt8 := (l.reverse.dropWhile (· == 48)).reverse
/-- The numeral of n thousandths. -/
def numS (n : Nat) : List UInt8 := Lib.decDigits (n / 1000) ++ (if cutZ (three (n % 1000)) = [] then [] else 46 :: cutZ (three (n % 1000)))
theorem cut_fin : ∀ m : Fin 1000, (cutZ (three m.val)).all isDig = true ∧ (cutZ (three m.val)).length ≤ 3 ∧ digitsVal ((cutZ (three m.val) ++ [48, 48, 48]).take 3) = m.val ∧ ((cutZ (three m.val) ++ [48, 48, 48]).take 3).length = 3 ∧ (cutZ (three m.val) = [] → m.val = 0) := by decide +kernel
theorem dig_of {c : UInt8} (h : 48 ≤ c.toNat ∧ c.toNat ≤ 57) : isDig c = true := by
  unfold isDig
  rw [beq_iff_eq]
  exact (kind3 c.toNat).2 h
theorem val_three (a b : List UInt8) (hb : b.length = 3) : digitsVal (a ++ b) = digitsVal a * 1000 + digitsVal b := by
  match b, hb with
  | [x, y, z], _ =>
    rw [val_append]
    simp only [digitsVal, List.foldl_cons, List.foldl_nil]
    omega
theorem numL_numS (n : Nat) (hn : n ≤ 1000000000) : numL (numS n) = ((n : Int), 0) := by
  obtain ⟨a, b, c, _, e⟩ := dec_spec (n / 1000)
  obtain ⟨f1, f2, f3, f5, f4⟩ := cut_fin ⟨n % 1000, Nat.mod_lt _ (by decide)⟩
  dsimp only at f1 f2 f3 f4 f5
  have hno : ∀ x ∈ Lib.decDigits (n / 1000), ¬ (x == (46 : UInt8)) = true := by
    intro x hx he
    rw [beq_iff_eq] at he
    have := a x hx
    rw [he] at this
    exact absurd this.1 (by decide)
  have hlen : (Lib.decDigits (n / 1000)).length ≤ 10 := by
    rw [Lib.decDigits_length]
    rcases Nat.lt_or_ge (Lib.nDigits (n / 1000)) 11 with h | h
    · omega
    · exfalso
      have hp : ∀ u : Nat, u ≤ 1000000 → Lib.nDigits u ≤ 7 := by
        intro u hu
        by_cases h0 : u < 10
        · rw [Lib.nDigits_small h0]; omega
        · have := Lib.nDigits_unique
          rcases (by omega : (10 ≤ u ∧ u < 100) ∨ (100 ≤ u ∧ u < 1000) ∨ (1000 ≤ u ∧ u < 10000) ∨ (10000 ≤ u ∧ u < 100000) ∨ (100000 ≤ u ∧ u < 1000000) ∨ (1000000 ≤ u ∧ u < 10000000)) with h | h | h | h | h | h
          · rw [this 1 u (by omega) (by omega)]; omega
          · rw [this 2 u (by omega) (by omega)]; omega
          · rw [this 3 u (by omega) (by omega)]; omega
          · rw [this 4 u (by omega) (by omega)]; omega
          · rw [this 5 u (by omega) (by omega)]; omega
          · rw [this 6 u (by omega) (by omega)]; omega
      have := hp (n / 1000) (by omega)
      omega
  have hall : (Lib.decDigits (n / 1000)).all isDig = true := List.all_eq_true.2 (fun x hx => dig_of (a x hx))
  have hhead : ¬ (1 < (Lib.decDigits (n / 1000)).length ∧ (Lib.decDigits (n / 1000)).head? = some 48) := by
    rintro ⟨h1, h2⟩
    by_cases h0 : n / 1000 < 10
    · rw [Lib.decDigits_one h0] at h1; simp at h1
    · exact e (by omega) h2
  have hval : digitsVal (Lib.decDigits (n / 1000) ++ (cutZ (three (n % 1000)) ++ [48, 48, 48]).take 3) = n := by
    rw [val_three _ _ f5, b, f3]; omega
  have key : ∀ t : List UInt8, ∀ i, t.findIdx (· == 46) = i → t.take i = Lib.decDigits (n / 1000) → t.drop (i + 1) = cutZ (three (n % 1000)) → ¬ (i < t.length ∧ (cutZ (three (n % 1000)) = [] ∨ 3 < (cutZ (three (n % 1000))).length)) → numL t = ((n : Int), 0) := by
    intro t i hi ht hp hc
    unfold numL
    simp only [hi, ht, hp]
    rw [if_neg (by rintro (h | h | h); exact c h; exact hhead h; exact hc h), if_neg (by rw [List.all_append, hall, f1]; decide), if_neg (by omega), hval, if_neg (by omega)]
  have hidx : ∀ r : List UInt8, (Lib.decDigits (n / 1000) ++ 46 :: r).findIdx (· == 46) = (Lib.decDigits (n / 1000)).length := by
    intro r
    rw [List.findIdx_append, if_neg]
    · rw [List.findIdx_cons]; simp
    · intro h
      rw [List.findIdx_lt_length] at h
      obtain ⟨x, hx, hy⟩ := h
      exact hno x hx hy
  unfold numS
  by_cases hz : cutZ (three (n % 1000)) = []
  · rw [if_pos hz, List.append_nil]
    refine key _ (Lib.decDigits (n / 1000)).length (List.findIdx_eq_length.2 fun x hx => by simpa using hno x hx) (List.take_length ..) ?_ (by omega)
    rw [hz, List.drop_eq_nil_of_le (by omega)]
  · rw [if_neg hz]
    refine key _ _ (hidx _) List.take_left ?_ ?_
    · rw [← List.drop_drop, List.drop_left]; rfl
    · rintro ⟨_, h | h⟩
      · exact hz h
      · omega
/-- A valid token. -/
def validB (k : Int) (t : List UInt8) (n : Int) : Bool :=
  if k ≠ 2 ∧ n ≠ 0 then false
  else if k = 1 then t.all isRunB && wordL t == 0
  else if k = 2 then t == [] && decide (0 ≤ n) && decide (n ≤ 1000000000)
  else if k = 3 then titleL t == 0
  else if k = 4 then t.length == 1 && t.all fun c => kindOf c.toNat == 5
  else if k = 5 then t == [] else false
/-- The spelling. -/
def spellS (k : Int) (t : List UInt8) (n : Int) : List UInt8 :=
  if k = 3 then 34 :: t ++ [34] else if k = 2 then (if 0 ≤ n ∧ n ≤ 1000000000 then numS n.toNat else []) else if k = 1 ∨ k = 4 then t else []
theorem cutZ_snoc (l : List UInt8) (c : UInt8) : cutZ (l ++ [c]) = if c.toNat = 48 then cutZ l else l ++ [c] := by
  unfold cutZ
  rw [List.reverse_append, List.reverse_cons, List.reverse_nil, List.nil_append, List.singleton_append]
  by_cases h : c.toNat = 48
  · have : c = 48 := by apply UInt8.toNat_inj.1; rw [h]; rfl
    rw [if_pos h, List.dropWhile_cons_of_pos (by rw [this]; rfl)]
  · have : ¬ (c == 48) = true := by
      rw [beq_iff_eq]; intro e; rw [e] at h; exact h rfl
    rw [if_neg h, List.dropWhile_cons_of_neg (p := fun x => x == 48) this]
    simp
theorem str_append (a b : List UInt8) : str a ++ str b = str (a ++ b) := by
  apply lst_inj; rw [lst_append]; rfl
theorem dec_len (u : Nat) (hu : u ≤ 10000000) : (Lib.decDigits u).length ≤ 8 := by
  rw [Lib.decDigits_length]
  by_cases h0 : u < 10
  · rw [Lib.nDigits_small h0]; omega
  · have := Lib.nDigits_unique
    rcases (by omega : (10 ≤ u ∧ u < 100) ∨ (100 ≤ u ∧ u < 1000) ∨ (1000 ≤ u ∧ u < 10000) ∨ (10000 ≤ u ∧ u < 100000) ∨ (100000 ≤ u ∧ u < 1000000) ∨ (1000000 ≤ u ∧ u < 10000000) ∨ (10000000 ≤ u ∧ u < 100000000)) with h | h | h | h | h | h | h
    · rw [this 1 u (by omega) (by omega)]; omega
    · rw [this 2 u (by omega) (by omega)]; omega
    · rw [this 3 u (by omega) (by omega)]; omega
    · rw [this 4 u (by omega) (by omega)]; omega
    · rw [this 5 u (by omega) (by omega)]; omega
    · rw [this 6 u (by omega) (by omega)]; omega
    · rw [this 7 u (by omega) (by omega)]; omega
theorem fmt_f (n : Nat) (hn : n ≤ 2000000000) : strconv_FormatInt.f (n : Int) 10 = some (str (Lib.decDigits n)) := by
  unfold strconv_FormatInt.f
  rw [if_pos (by omega)]
  rfl
theorem tw_all {α : Type} {p : α → Bool} : ∀ {l : List α}, l.all p = true → l.takeWhile p = l ∧ l.dropWhile p = []
  | [], _ => ⟨rfl, rfl⟩
  | a :: l, h => by
    rw [List.all_cons, Bool.and_eq_true] at h
    obtain ⟨h1, h2⟩ := tw_all (l := l) h.2
    exact ⟨by rw [List.takeWhile_cons_of_pos h.1, h1], by rw [List.dropWhile_cons_of_pos h.1, h2]⟩
theorem dw_nil {α : Type} {p : α → Bool} : ∀ {l : List α}, l.dropWhile p = [] → l.all p = true
  | [], _ => rfl
  | a :: l, h => by
    by_cases ha : p a = true
    · rw [List.dropWhile_cons_of_pos ha] at h
      rw [List.all_cons, ha, dw_nil h]; rfl
    · rw [List.dropWhile_cons_of_neg ha] at h; cases h
theorem run_no {c : UInt8} (h : isRunB c = true) : c.toNat ≠ 34 ∧ kindOf c.toNat ≠ 5 ∧ c.toNat ≠ 35 ∧ kindOf c.toNat ≠ 1 := by
  unfold isRunB at h
  simp only [Bool.or_eq_true, beq_iff_eq] at h
  have h2 := kind2 c.toNat; have h3 := kind3 c.toNat; have h4 := kind4 c.toNat
  refine ⟨?_, ?_, ?_, ?_⟩ <;> omega
/-- All of a run at once. -/
theorem tok_run (t : List UInt8) (h : t ≠ []) (ha : t.all isRunB = true) : tokL t = clsL t [] := by
  cases t with
  | nil => exact absurd rfl h
  | cons c l =>
    rw [List.all_cons, Bool.and_eq_true] at ha
    obtain ⟨h1, h2⟩ := tw_all ha.2
    unfold tokL
    dsimp only
    rw [if_pos ha.1, h1, h2]
/-- The condition that the reference's Valid holds against the token that it reads. -/
def readsAs (k : Int) (t : List UInt8) (n : Int) (s : List UInt8) : Prop := (tokL s).code = 0 ∧ (tokL s).rest = [] ∧ (tokL s).kind = k ∧ (tokL s).text = t ∧ (tokL s).n = n
theorem tok_rest_run {c : UInt8} {l : List UInt8} (hc : isRunB c = true) (h : (tokL (c :: l)).rest = []) : (c :: l).all isRunB = true := by
  unfold tokL at h
  dsimp only at h
  rw [if_pos hc] at h
  have : (clsL (c :: l.takeWhile isRunB) (l.dropWhile isRunB)).rest = l.dropWhile isRunB := by unfold clsL; split <;> rfl
  rw [this] at h
  rw [List.all_cons, hc, dw_nil h]; rfl
theorem isRun_of_dig {c : UInt8} (h : isDig c = true) : isRunB c = true := by
  unfold isDig at h; unfold isRunB
  rw [beq_iff_eq] at h
  rw [h]; rfl
theorem numS_run (n : Nat) : (numS n).all isRunB = true ∧ numS n ≠ [] := by
  obtain ⟨a, _, c, _, _⟩ := dec_spec (n / 1000)
  obtain ⟨f1, _⟩ := cut_fin ⟨n % 1000, Nat.mod_lt _ (by decide)⟩
  dsimp only at f1
  have h1 : (Lib.decDigits (n / 1000)).all isRunB = true := List.all_eq_true.2 fun x hx => isRun_of_dig (dig_of (a x hx))
  have h2 : (cutZ (three (n % 1000))).all isRunB = true := List.all_eq_true.2 fun x hx => isRun_of_dig (List.all_eq_true.1 f1 x hx)
  unfold numS
  refine ⟨?_, by intro h; exact c (List.append_eq_nil_iff.1 h).1⟩
  rw [List.all_append, h1, Bool.true_and]
  split
  · rfl
  · rw [List.all_cons, h2]; rfl
theorem numS_len (n : Nat) (hn : n ≤ 1000000000) : (numS n).length ≤ 12 := by
  have h := dec_len (n / 1000) (by omega)
  obtain ⟨_, f2, _⟩ := cut_fin ⟨n % 1000, Nat.mod_lt _ (by decide)⟩
  dsimp only at f2
  unfold numS
  rw [List.length_append]
  split
  · simp; omega
  · rw [List.length_cons]; omega
theorem wordL_zero {t : List UInt8} (h : wordL t = 0) : t ≠ [] ∧ t.length ≤ 32 ∧ t.any isLet = true := by
  unfold wordL at h
  by_cases hd : t.any isDot = true
  · rw [if_pos hd] at h; cases h
  · rw [if_neg hd] at h
    by_cases hl : t.any isLet = true
    · rw [if_pos hl] at h
      by_cases h32 : 32 < t.length
      · rw [if_pos h32] at h; cases h
      · refine ⟨?_, by omega, hl⟩
        intro e; subst e; cases hl
    · rw [if_neg hl] at h; cases h
theorem titleL_zero {t : List UInt8} (h : titleL t = 0) : t ≠ [] ∧ t.length ≤ 40 ∧ t.all inStr = true := by
  unfold titleL at h
  by_cases h1 : t = [] ∨ t.head? = some 32 ∨ t.getLast? = some 32
  · rw [if_pos h1] at h; cases h
  · rw [if_neg h1] at h
    by_cases h2 : t.any badT = true
    · rw [if_pos h2] at h; cases h
    · rw [if_neg h2] at h
      by_cases h3 : 40 < t.length
      · rw [if_pos h3] at h; cases h
      · refine ⟨fun e => h1 (.inl e), by omega, ?_⟩
        rw [List.all_eq_true]
        intro x hx
        have hb : badT x = false := by
          cases hb : badT x with
          | false => rfl
          | true => exact absurd (List.any_eq_true.2 ⟨x, hx, hb⟩) h2
        unfold badT at hb
        simp only [Bool.or_eq_false_iff, decide_eq_false_iff_not, beq_eq_false_iff_ne] at hb
        unfold inStr
        simp only [Bool.and_eq_true, bne_iff_ne]
        omega
theorem tok_quote (t : List UInt8) (h : t.all inStr = true) : tokL (34 :: t ++ [34]) = ⟨3, t, 0, [], titleL t⟩ := by
  have e : tokL (34 :: t ++ [34]) = textL (t ++ [34]) := by
    have hr : isRunB 34 = false := by decide
    have : tokL (34 :: (t ++ [34])) = textL (t ++ [34]) := by
      unfold tokL; dsimp only; rw [if_neg (by simp [hr]), if_pos (by rfl)]
    exact this
  obtain ⟨h1, h2⟩ := tw_all h
  have t1 : (t ++ [34]).takeWhile inStr = t := by
    rw [List.takeWhile_append, if_pos (by rw [h1]), List.takeWhile_cons_of_neg (by decide), List.append_nil]
  have t2 : (t ++ [34]).dropWhile inStr = [34] := by
    rw [List.dropWhile_append, if_pos (by rw [h2]; rfl), List.dropWhile_cons_of_neg (by decide)]
  rw [e]
  unfold textL
  rw [t1, t2]
  rfl
/-- A valid token's spelling is read as that token. -/
theorem reads_of_valid {k n : Int} {t : List UInt8} (h : validB k t n = true) (h5 : k ≠ 5) : readsAs k t n (spellS k t n) ∧ spellS k t n ≠ [] ∧ (spellS k t n).length ≤ 60 := by
  unfold validB at h
  by_cases hn : k ≠ 2 ∧ n ≠ 0
  · rw [if_pos hn] at h; cases h
  · rw [if_neg hn] at h
    by_cases h1 : k = 1
    · subst h1
      obtain rfl : n = 0 := by omega
      rw [if_pos rfl, Bool.and_eq_true, beq_iff_eq] at h
      obtain ⟨g1, g2, g3⟩ := wordL_zero h.2
      have e : spellS 1 t 0 = t := by simp [spellS]
      rw [e]
      refine ⟨?_, g1, by omega⟩
      unfold readsAs
      rw [tok_run t g1 h.1]
      unfold clsL
      rw [if_pos (let_num t g3), h.2]
      exact ⟨rfl, rfl, rfl, rfl, rfl⟩
    · rw [if_neg h1] at h
      by_cases h2 : k = 2
      · subst h2
        rw [if_pos rfl, Bool.and_eq_true, Bool.and_eq_true, decide_eq_true_eq, decide_eq_true_eq, beq_iff_eq] at h
        obtain ⟨⟨rfl, g0⟩, g1⟩ := h
        obtain ⟨m, rfl⟩ : ∃ m : Nat, n = (m : Int) := ⟨n.toNat, by omega⟩
        have e : spellS 2 [] (m : Int) = numS m := by
          unfold spellS
          rw [if_neg (by decide), if_pos rfl, if_pos ⟨g0, g1⟩]; rfl
        obtain ⟨r1, r2⟩ := numS_run m
        have hl := numS_len m (by omega)
        rw [e]
        refine ⟨?_, r2, by omega⟩
        unfold readsAs
        rw [tok_run _ r2 r1]
        unfold clsL
        rw [numL_numS m (by omega), if_neg (show ¬ (0 : Int) = 2 by decide)]
        exact ⟨rfl, rfl, rfl, rfl, rfl⟩
      · rw [if_neg h2] at h
        obtain rfl : n = 0 := by omega
        by_cases h3 : k = 3
        · subst h3
          rw [if_pos rfl, beq_iff_eq] at h
          obtain ⟨g1, g2, g3⟩ := titleL_zero h
          have e : spellS 3 t 0 = 34 :: t ++ [34] := by simp [spellS]
          rw [e]
          refine ⟨?_, by simp, by simp; omega⟩
          unfold readsAs
          rw [tok_quote t g3]
          exact ⟨h, rfl, rfl, rfl, rfl⟩
        · rw [if_neg h3] at h
          by_cases h4 : k = 4
          · subst h4
            rw [if_pos rfl, Bool.and_eq_true, beq_iff_eq] at h
            have e : spellS 4 t 0 = t := by simp [spellS]
            rw [e]
            match t, h with
            | [c], h =>
              have hc : kindOf c.toNat = 5 := by simpa using h.2
              refine ⟨?_, by simp, by simp⟩
              unfold readsAs
              have h34 : c.toNat ≠ 34 := by have := kind5 c.toNat; omega
              have : tokL [c] = ⟨4, [c], 0, [], 0⟩ := by
                unfold tokL; dsimp only
                rw [if_neg (by simp [isRunB, hc]), if_neg h34, if_pos hc]
              rw [this]
              exact ⟨rfl, rfl, rfl, rfl, rfl⟩
          · rw [if_neg h4, if_neg h5] at h; cases h
/-- What reads as a token is a valid one. -/
theorem valid_of_reads {k n : Int} {t : List UInt8} (hs : spellS k t n ≠ []) (h : readsAs k t n (spellS k t n)) (h5 : k ≠ 5) : validB k t n = true := by
  obtain ⟨hc, hr, hk, ht, hn⟩ := h
  unfold spellS at hs hc hr hk ht hn
  by_cases h3 : k = 3
  · subst h3
    rw [if_pos rfl] at hc hr hk ht hn
    have e : tokL (34 :: t ++ [34]) = textL (t ++ [34]) := by
      have hr : isRunB 34 = false := by decide
      have : tokL (34 :: (t ++ [34])) = textL (t ++ [34]) := by
        unfold tokL; dsimp only; rw [if_neg (by simp [hr]), if_pos (by rfl)]
      exact this
    have hall : t.all inStr = true := by
      rw [e] at ht hc
      unfold textL at ht hc
      have key : (t ++ [34]).takeWhile inStr = t := by
        revert ht hc
        split
        · intro hc; cases hc
        · split
          · intro _ ht; exact ht
          · intro hc; cases hc
      rw [List.all_eq_true]
      intro x hx
      rw [← key] at hx
      exact List.all_eq_true.1 List.all_takeWhile x hx
    rw [tok_quote t hall] at hc hn
    unfold validB
    rw [if_neg (by rintro ⟨_, h⟩; exact h hn.symm), if_neg (by decide), if_neg (by decide), if_pos rfl, beq_iff_eq]
    exact hc
  · rw [if_neg h3] at hs hc hr hk ht hn
    by_cases h2 : k = 2
    · subst h2
      rw [if_pos rfl] at hs hc hr hk ht hn
      by_cases hx : 0 ≤ n ∧ n ≤ 1000000000
      · rw [if_pos hx] at hs hc hr hk ht hn
        obtain ⟨m, rfl⟩ : ∃ m : Nat, n = (m : Int) := ⟨n.toNat, by omega⟩
        rw [Int.toNat_natCast] at hc ht
        obtain ⟨r1, r2⟩ := numS_run m
        rw [tok_run _ r2 r1] at ht
        unfold clsL at ht
        rw [numL_numS m (by omega), if_neg (show ¬ (0 : Int) = 2 by decide)] at ht
        unfold validB
        rw [if_neg (by rintro ⟨h, _⟩; exact h rfl), if_neg (by decide), if_pos rfl, ← ht]
        simp [hx.1, hx.2]
      · rw [if_neg hx] at hs; exact absurd rfl hs
    · rw [if_neg h2] at hs hc hr hk ht hn
      by_cases h14 : k = 1 ∨ k = 4
      · rw [if_pos h14] at hs hc hr hk ht hn
        cases t with
        | nil => exact absurd rfl hs
        | cons c l =>
          by_cases hrun : isRunB c = true
          · have hall := tok_rest_run hrun hr
            rw [tok_run _ (by simp) hall] at hc hk hn
            unfold clsL at hc hk hn
            by_cases hnum : (numL (c :: l)).2 = 2
            · rw [if_pos hnum] at hc hk hn
              dsimp only at hc hk hn
              subst hk hn
              unfold validB
              rw [if_neg (by rintro ⟨_, h⟩; exact h rfl), if_pos rfl, hall, hc]; rfl
            · rw [if_neg hnum] at hk
              dsimp only at hk
              omega
          · have hrun' : isRunB c = false := by simpa using hrun
            by_cases h34 : c.toNat = 34
            · exfalso
              have e : tokL (c :: l) = textL l := by
                unfold tokL; dsimp only; rw [if_neg hrun, if_pos h34]
              rw [e] at hk hc
              unfold textL at hk hc
              revert hk hc
              split
              · intro hc; cases hc
              · split
                · intro _ hk; dsimp only at hk; omega
                · intro hc; cases hc
            · by_cases h5' : kindOf c.toNat = 5
              · have e : tokL (c :: l) = ⟨4, [c], 0, l, 0⟩ := by
                  unfold tokL; dsimp only; rw [if_neg hrun, if_neg h34, if_pos h5']
                rw [e] at hr hk hn
                dsimp only at hr hk hn
                subst hr hk hn
                unfold validB
                rw [if_neg (by rintro ⟨_, h⟩; exact h rfl), if_neg (by decide), if_neg (by decide), if_neg (by decide), if_pos rfl]
                simp [h5']
              · exfalso
                have e : tokL (c :: l) = ⟨0, [], 0, [], 2⟩ := by
                  unfold tokL; dsimp only; rw [if_neg hrun, if_neg h34, if_neg h5']
                rw [e] at hc
                cases hc
      · rw [if_neg h14] at hs; exact absurd rfl hs
theorem Ev.const {α : Type} {x : Option α} {r : α} (h : x = some r) : Ev (fun _ => x) r := by subst h; exact Ev.now r
theorem skip_tok (c : UInt8) (l : List UInt8) (h : (tokL (c :: l)).code = 0) : skipL false (c :: l) = c :: l := by
  have hno : c.toNat ≠ 35 ∧ kindOf c.toNat ≠ 1 := by
    by_cases hr : isRunB c = true
    · have := run_no hr; exact ⟨this.2.2.1, this.2.2.2⟩
    · by_cases h34 : c.toNat = 34
      · rw [h34]; exact ⟨by decide, by decide⟩
      · by_cases h5 : kindOf c.toNat = 5
        · have h1 := kind5 c.toNat
          exact ⟨by omega, by omega⟩
        · exfalso
          have e : tokL (c :: l) = ⟨0, [], 0, [], 2⟩ := by
            unfold tokL; dsimp only; rw [if_neg hr, if_neg h34, if_neg h5]
          rw [e] at h; cases h
  unfold skipL
  rw [if_neg hno.1, if_neg hno.2]
/-- A spelling alone in a source. -/
theorem lex_one {k n : Int} {t : List UInt8} (h : validB k t n = true) (h5 : k ≠ 5) (f : Nat) : lexL (f + 2) (spellS k t n) = .ok [⟨k, t, n, (spellS k t n).length⟩, ⟨5, [], 0, 0⟩] := by
  obtain ⟨⟨hc, hr, hk, ht, hn⟩, hne, _⟩ := reads_of_valid h h5
  cases hx : spellS k t n with
  | nil => exact absurd hx hne
  | cons c l =>
    rw [hx] at hc hr hk ht hn
    have hs := skip_tok c l hc
    unfold lexL
    dsimp only
    rw [hs, if_neg (by rw [hc]; simp), if_neg (by simp), hr, hk, ht, hn]
    rfl
end Go.Proofs.YtkifdadhojbohaaDoor.Pu
namespace Go.Proofs.YtkifdadhojbohaaDoor.Pu
open Go.RowKit Go.Proofs.YtkifdadhojbohaaDoor Go.Proofs.YtkifdadhojbohaaDoor.Pr Go.Proofs.YtkifdadhojbohaaDoorW.PrintWords Go.Proofs.YtkifdadhojbohaaDoorW.PrintLast Go.Proofs.YtkifdadhojbohaaDoorW.PrintMore
theorem size_kids (c : S41) (l : List S41) : SizeOf.sizeOf c.f3 < SizeOf.sizeOf (c :: l) := by
  cases c; simp; omega
theorem size_tail (c : S41) (l : List S41) : SizeOf.sizeOf l < SizeOf.sizeOf (c :: l) := by
  simp; omega
theorem indL {P : List S41 → Prop} (h0 : P []) (h1 : ∀ c l, P c.f3 → P l → P (c :: l)) : ∀ l, P l := by
  have key : ∀ n, ∀ l : List S41, SizeOf.sizeOf l < n → P l := by
    intro n
    induction n with
    | zero => intro l h; omega
    | succ n ih =>
      intro l h
      cases l with
      | nil => exact h0
      | cons c l => exact h1 c l (ih _ (by have := size_kids c l; omega)) (ih _ (by have := size_tail c l; omega))
  exact fun l => key (SizeOf.sizeOf l + 1) l (by omega)
theorem Ev.cast {α : Type} {g : Nat → Option α} {r s : α} (h : r = s) (k : Ev g r) : Ev g s := h ▸ k
/-- The depth. -/
def depL : List S41 → Nat
  | [] => 0
  | c :: l => max (if c.f2 = true then 1 + depL c.f3 else 0) (depL l)
termination_by l => SizeOf.sizeOf l
decreasing_by
  · exact size_kids c l
  · exact size_tail c l
/-- The number of entries. -/
def cntL : List S41 → Nat
  | [] => 0
  | c :: l => 1 + cntL c.f3 + cntL l
termination_by l => SizeOf.sizeOf l
decreasing_by
  · exact size_kids c l
  · exact size_tail c l
/-- The number of entries and atoms. -/
def szL : List S41 → Nat
  | [] => 0
  | c :: l => 1 + c.f1.length + szL c.f3 + szL l
termination_by l => SizeOf.sizeOf l
decreasing_by
  · exact size_kids c l
  · exact size_tail c l
def okA (t : S46) : Bool := isA t && validB t.f0 (lst t.f1) t.f2
/-- Words, atoms and blocks are possible. -/
def formL : List S41 → Bool
  | [] => true
  | c :: l => validB 1 (lst c.f0) 0 && (c.f2 || c.f3.isEmpty) && c.f1.all okA && formL c.f3 && formL l
termination_by l => SizeOf.sizeOf l
decreasing_by
  · exact size_kids c l
  · exact size_tail c l
def sgT (b : UInt8) : S46 := ⟨4, (⟨#[b]⟩ : ByteArray), 0, 0⟩
/-- The tokens. -/
def toksL : List S41 → List S46
  | [] => []
  | c :: l => ⟨1, c.f0, 0, 0⟩ :: c.f1 ++ (if c.f2 = true then sgT 123 :: toksL c.f3 ++ [sgT 125] else [sgT 59]) ++ toksL l
termination_by l => SizeOf.sizeOf l
decreasing_by
  · exact size_kids c l
  · exact size_tail c l
/-- All entries, those in blocks included, have the property. -/
inductive AllC (P : S41 → Prop) : List S41 → Prop
  | nil : AllC P []
  | cons (c : S41) (l : List S41) : P c → AllC P c.f3 → AllC P l → AllC P (c :: l)
/-- Texts of at most n bytes. -/
def txt (n : Nat) (c : S41) : Prop := c.f0.size ≤ n ∧ ∀ a ∈ c.f1, a.f1.size ≤ n
theorem dep_le : ∀ l, depL l ≤ szL l := by
  refine indL (by simp [depL]) ?_
  intro c l h1 h2
  rw [depL, szL]
  split <;> omega
theorem cnt_le : ∀ l, cntL l ≤ szL l := by
  refine indL (by simp [cntL]) ?_
  intro c l h1 h2
  rw [cntL, szL]
  omega
theorem len_le : ∀ l : List S41, l.length ≤ szL l := by
  refine indL (by simp) ?_
  intro c l h1 h2
  rw [szL, List.length_cons]
  omega
theorem cnt_len : ∀ l : List S41, l.length ≤ cntL l := by
  refine indL (by simp) ?_
  intro c l h1 h2
  rw [cntL, List.length_cons]
  omega
theorem toks_le : ∀ l, (toksL l).length ≤ 3 * szL l := by
  refine indL (by simp [toksL]) ?_
  intro c l h1 h2
  rw [toksL, szL]
  split <;> simp <;> omega
theorem cnt_append (a b : List S41) : cntL (a ++ b) = cntL a + cntL b := by
  induction a with
  | nil => simp [cntL]
  | cons c a ih => rw [List.cons_append, cntL, cntL, ih]; omega
theorem sz_append (a b : List S41) : szL (a ++ b) = szL a + szL b := by
  induction a with
  | nil => simp [szL]
  | cons c a ih => rw [List.cons_append, szL, szL, ih]; omega
theorem dep_append (a b : List S41) : depL (a ++ b) = max (depL a) (depL b) := by
  induction a with
  | nil => simp [depL]
  | cons c a ih => rw [List.cons_append, depL, depL, ih]; omega
theorem toks_append (a b : List S41) : toksL (a ++ b) = toksL a ++ toksL b := by
  induction a with
  | nil => simp [toksL]
  | cons c a ih => rw [List.cons_append, toksL, toksL, ih]; simp
theorem form_append (a b : List S41) : formL (a ++ b) = (formL a && formL b) := by
  induction a with
  | nil => simp [formL]
  | cons c a ih => rw [List.cons_append, formL, formL, ih]; simp [Bool.and_assoc]
theorem sm_self (p : Bool) : ∀ l, szL l ≤ 1000000 → SmL p l l := by
  refine indL (fun _ => SmL.nil) ?_
  intro c l h1 h2 h
  rw [szL] at h
  have := len_le l
  exact SmL.cons _ _ _ _ rfl rfl rfl (fun _ => rfl) (by omega) (by omega) (h1 (by omega)) (h2 (by omega))
/-! ### Depth, Count -/
theorem mx_nat (a b : Nat) : mx (a : Int) (b : Int) = ((max a b : Nat) : Int) := by
  unfold mx
  split <;> omega
theorem Depth_f : ∀ l, szL l ≤ 900000 → Ev (fun k => parser_Depth.f k l) (depL l : Int) := by
  have loop : ∀ l, szL l ≤ 900000 → ∀ (A : List S41) (i m : Nat), A.drop i = l → A.length ≤ 900000 → m ≤ 900000 → i ≤ A.length → Ev (fun k => parser_Depth.l0 k (m : Int) A (A.length : Int) (i : Int)) ((max m (depL l) : Nat) : Int) := by
    refine indL ?_ ?_
    · intro _ A i m hA hn hm hi
      have : A.length ≤ i := by
        have := congrArg List.length hA
        rw [List.length_drop] at this
        simp at this; omega
      refine Ev.succ ?_
      simp only [parser_Depth.l0]
      exact Ev.ifn (by omega) (Ev.ret (by simp [depL]))
    · intro c l h1 h2 hs A i m hA hn hm hi
      rw [szL] at hs
      obtain ⟨a1, a2, a3⟩ := rd41_at hA
      have hd := dep_le c.f3
      have hc := len_le c.f3
      refine Ev.succ ?_
      simp only [parser_Depth.l0, a2]
      rw [wrap_nat i (by omega)]
      refine Ev.ifp (by omega) (Ev.ifp natO (Ev.ifp (by omega) ?_))
      by_cases hb : c.f2 = true
      · refine Ev.ifp hb (Ev.bind (a := ((depL c.f3 : Nat) : Int)) ?_ ?_)
        · refine Ev.succ ?_
          simp only [parser_Depth.f]
          simpa using h1 (by omega) c.f3 0 0 rfl (by omega) (by omega) (by omega)
        · have e : wrap64 (1 + ((depL c.f3 : Nat) : Int)) = ((1 + depL c.f3 : Nat) : Int) := by rw [wrap64_of (by omega) (by omega)]; omega
          rw [e, mx_nat]
          have := h2 (by omega) A (i + 1) (max m (1 + depL c.f3)) a3 hn (by omega) (by omega)
          rw [depL, if_pos hb]
          rwa [← Nat.max_assoc]
      · refine Ev.ifn hb ?_
        have := h2 (by omega) A (i + 1) m a3 hn (by omega) (by omega)
        rw [depL, if_neg hb]
        simpa using this
  intro l hl
  have := len_le l
  refine Ev.succ ?_
  simp only [parser_Depth.f]
  simpa using loop l hl l 0 0 rfl (by omega) (by omega) (by omega)
theorem Count_f : ∀ l, szL l ≤ 900000 → Ev (fun k => parser_Count.f k l) (cntL l : Int) := by
  have loop : ∀ l, szL l ≤ 900000 → ∀ (A : List S41) (i m : Nat), A.drop i = l → A.length ≤ 900000 → m + cntL l ≤ 2000000 → i ≤ A.length → Ev (fun k => parser_Count.l0 k (m : Int) A (A.length : Int) (i : Int)) ((m + (cntL l - l.length) : Nat) : Int) := by
    refine indL ?_ ?_
    · intro _ A i m hA hn hm hi
      have : A.length ≤ i := by
        have := congrArg List.length hA
        rw [List.length_drop] at this
        simp at this; omega
      refine Ev.succ ?_
      simp only [parser_Count.l0]
      exact Ev.ifn (by omega) (Ev.ret (by simp [cntL]))
    · intro c l h1 h2 hs A i m hA hn hm hi
      rw [szL] at hs
      rw [cntL] at hm
      obtain ⟨a1, a2, a3⟩ := rd41_at hA
      have hd := cnt_le c.f3
      have hc := len_le c.f3
      have hk := cnt_len c.f3
      have hl := cnt_len l
      refine Ev.succ ?_
      simp only [parser_Count.l0, a2]
      rw [wrap_nat i (by omega)]
      refine Ev.ifp (by omega) (Ev.ifp natO (Ev.ifp (by omega) ?_))
      refine Ev.bind (a := ((cntL c.f3 : Nat) : Int)) ?_ ?_
      · refine Ev.succ ?_
        simp only [parser_Count.f]
        have := h1 (by omega) c.f3 0 c.f3.length rfl (by omega) (by omega) (by omega)
        rw [show c.f3.length + (cntL c.f3 - c.f3.length) = cntL c.f3 by omega] at this
        simpa using this
      · have e : wrap64 ((m : Int) + ((cntL c.f3 : Nat) : Int)) = ((m + cntL c.f3 : Nat) : Int) := by rw [wrap64_of (by omega) (by omega)]; omega
        rw [e]
        clear e
        have hm2 : m + cntL c.f3 + cntL l ≤ 2000000 := (show ∀ a b d : Nat, a + (1 + b + d) ≤ 2000000 → a + b + d ≤ 2000000 by intro a b d h; omega) _ _ _ hm
        have := h2 (by omega) A (i + 1) (m + cntL c.f3) a3 hn hm2 (by omega)
        refine Ev.cast ?_ this
        have e2 : cntL (c :: l) = 1 + cntL c.f3 + cntL l := by rw [cntL]
        have e3 : (c :: l).length = l.length + 1 := List.length_cons
        generalize cntL (c :: l) = x at e2 ⊢
        generalize (c :: l).length = y at e3 ⊢
        omega
  intro l hl
  have h1 := len_le l
  have h2 := cnt_len l
  have h3 := cnt_le l
  refine Ev.succ ?_
  simp only [parser_Count.f]
  have := loop l hl l 0 l.length rfl (by omega) (by omega) (by omega)
  rw [show l.length + (cntL l - l.length) = cntL l by omega] at this
  simpa using this
def chkL (l : List S41) : Int := if formL l = true then (if 8 < depL l then 6 else 0) else 2
/-! ### what is read -/
theorem RL.facts {o : Nat} {ts : List S46} {x : Ans} (h : RL o ts x) : o ≤ 8 → ∀ cs r, x = .ok (cs, r) → szL cs + r.length ≤ ts.length ∧ depL cs + o ≤ 8 ∧ (toksL cs).length + r.length = ts.length := by
  induction h with
  | stop o t r => intro ho cs r' hx; cases hx; simp [szL, depL, toksL]; exact ho
  | bad => intro _ cs r hx; cases hx
  | semi o t ats u r x h1 h2 h3 hr ih =>
    intro ho cs q hx
    cases x with
    | error e => cases hx
    | ok y =>
      cases hx
      obtain ⟨g1, g2, g3⟩ := ih ho _ _ rfl
      rw [szL, depL, toksL]
      simp [szL]
      omega
  | syn => intro _ cs r hx; cases hx
  | lim => intro _ cs r hx; cases hx
  | blk o t ats u r ks b q x ho h1 h2 h3 hk hr ihk ih =>
    intro ho' cs q' hx
    cases x with
    | error e => cases hx
    | ok y =>
      cases hx
      obtain ⟨g1, g2, g3⟩ := ihk (by omega) _ _ rfl
      obtain ⟨k1, k2, k3⟩ := ih ho' _ _ rfl
      rw [szL, depL, toksL]
      simp at g1 g3 ⊢
      omega
  | blkF => intro _ cs r hx; cases hx
/-- What is read out of possible tokens is possible. -/
theorem RL.form {o : Nat} {ts : List S46} {x : Ans} (h : RL o ts x) : (∀ t ∈ ts, validB t.f0 (lst t.f1) t.f2 = true ∧ t.f1.size ≤ 900000) → ∀ cs r, x = .ok (cs, r) → formL cs = true ∧ AllC (txt 900000) cs := by
  have hword : ∀ t : S46, validB t.f0 (lst t.f1) t.f2 = true → t.f0 = 1 → validB 1 (lst t.f1) 0 = true := by
    intro t hv h1
    rw [h1] at hv
    by_cases hn : t.f2 = 0
    · rwa [hn] at hv
    · unfold validB at hv
      rw [if_pos ⟨by decide, hn⟩] at hv
      cases hv
  induction h with
  | stop => intro _ cs r hx; cases hx; exact ⟨by simp [formL], AllC.nil⟩
  | bad => intro _ cs r hx; cases hx
  | semi o t ats u r x h1 h2 h3 hr ih =>
    intro hv cs q hx
    cases x with
    | error e => cases hx
    | ok y =>
      cases hx
      obtain ⟨g1, g2⟩ := ih (fun a ha => hv a (by simp [ha])) _ _ rfl
      refine ⟨?_, AllC.cons _ _ ⟨(hv t (by simp)).2, fun a ha => (hv a (by simp [show a ∈ ats from ha])).2⟩ AllC.nil g2⟩
      rw [formL]
      have ha : ats.all okA = true := List.all_eq_true.2 (fun a ha => by simp [okA, h2 a ha, (hv a (by simp [ha])).1])
      simp [hword t (hv t (by simp)).1 h1, g1, formL]
      simpa using ha
  | syn => intro _ cs r hx; cases hx
  | lim => intro _ cs r hx; cases hx
  | blk o t ats u r ks b q x ho h1 h2 h3 hk hr ihk ih =>
    intro hv cs q' hx
    cases x with
    | error e => cases hx
    | ok y =>
      cases hx
      obtain ⟨g1, g2⟩ := ihk (fun a ha => hv a (by simp [ha])) _ _ rfl
      obtain ⟨b', q0, pk, f1, f2, f3, f4, f5⟩ := hk.frame _ _ rfl
      obtain ⟨k1, k2⟩ := ih (fun a ha => hv a (by rw [f4]; simp [ha])) _ _ rfl
      refine ⟨?_, AllC.cons _ _ ⟨(hv t (by simp)).2, fun a ha => (hv a (by simp [show a ∈ ats from ha])).2⟩ g2 k2⟩
      rw [formL]
      have ha : ats.all okA = true := List.all_eq_true.2 (fun a ha => by simp [okA, h2 a ha, (hv a (by simp [ha])).1])
      simp [hword t (hv t (by simp)).1 h1, g1, k1]
      simpa using ha
  | blkF => intro _ cs r hx; cases hx
theorem lexL_length : ∀ (f : Nat) (l : List UInt8) (ts : List Tok), lexL f l = .ok ts → ts.length ≤ f := by
  intro f
  induction f with
  | zero => intro l ts h; simp only [lexL, Except.ok.injEq] at h; subst h; simp
  | succ f ih =>
    intro l ts h
    simp only [lexL] at h
    split at h
    · cases h
    · split at h
      · simp only [Except.ok.injEq] at h; subst h; simp
      · split at h
        · cases h
        · rename_i us hu
          simp only [Except.ok.injEq] at h
          subst h
          have := ih _ _ hu
          simp only [List.length_cons]; omega
theorem lexAns_length (s : ByteArray) : (lexAns s.size [] (lexL (s.size + 1) (lst s))).1.length ≤ s.size + 1 := by
  cases h : lexL (s.size + 1) (lst s) with
  | error e => simp [lexAns]
  | ok ts =>
    have := lexL_length _ _ _ h
    simpa [lexAns] using this
theorem lexL_fuel : ∀ (f g : Nat) (l : List UInt8), l.length < f → l.length < g → lexL f l = lexL g l := by
  intro f
  induction f with
  | zero => intro g l h; omega
  | succ f ih =>
    intro g l hf hg
    cases g with
    | zero => omega
    | succ g =>
      have hsk := (skipL_suffix l false).length_le
      simp only [lexL]
      by_cases hc : (tokL (skipL false l)).code = 0
      · have hc2 : ¬ (tokL (skipL false l)).code ≠ 0 := by simp [hc]
        simp only [if_neg hc2]
        by_cases h0 : skipL false l = []
        · simp only [if_pos h0]
        · simp only [if_neg h0]
          obtain ⟨h1, h2⟩ := tok_suffix (skipL false l) hc
          obtain ⟨h3, h4⟩ := h2 h0
          rw [ih g _ (by omega) (by omega)]
      · simp only [if_pos (show (tokL (skipL false l)).code ≠ 0 from hc)]
theorem lexL_err : ∀ (f : Nat) (l : List UInt8) (e : Int × Nat), lexL f l = .error e → e.2 ≤ l.length := by
  intro f
  induction f with
  | zero => intro l e h; simp [lexL] at h
  | succ f ih =>
    intro l e h
    have hsk := (skipL_suffix l false).length_le
    simp only [lexL] at h
    by_cases hc : (tokL (skipL false l)).code = 0
    · rw [if_neg (by simp [hc])] at h
      by_cases h0 : skipL false l = []
      · rw [if_pos h0] at h; cases h
      · rw [if_neg h0] at h
        obtain ⟨h1, h2⟩ := tok_suffix (skipL false l) hc
        obtain ⟨h3, h4⟩ := h2 h0
        split at h
        · rename_i x hx
          have := ih _ _ hx
          cases h
          omega
        · cases h
    · rw [if_pos hc] at h
      cases h
      exact hsk
theorem lexL_skip (f : Nat) (l m : List UInt8) (h : skipL false l = skipL false m) : lexL (f + 1) l = lexL (f + 1) m := by
  simp only [lexL]
  rw [h]
theorem lexL_code : ∀ (f : Nat) (l : List UInt8) (e : Int × Nat), lexL f l = .error e → e.1 ≠ 0 := by
  intro f
  induction f with
  | zero => intro l e h; simp [lexL] at h
  | succ f ih =>
    intro l e h
    simp only [lexL] at h
    by_cases hc : (tokL (skipL false l)).code = 0
    · have hc2 : ¬ (tokL (skipL false l)).code ≠ 0 := by simp [hc]
      rw [if_neg hc2] at h
      by_cases h0 : skipL false l = []
      · rw [if_pos h0] at h; cases h
      · rw [if_neg h0] at h
        split at h
        · rename_i x hx
          have := ih _ _ hx
          cases h
          exact this
        · cases h
    · rw [if_pos (show (tokL (skipL false l)).code ≠ 0 from hc)] at h
      cases h
      exact hc
/-- The token at the end. -/
abbrev endT : Tok := ⟨5, [], 0, 0⟩
theorem all_tw {α : Type} (p : α → Bool) (l : List α) : (l.takeWhile p).all p = true := List.all_takeWhile
/-- What is read as a token is a valid one, and not longer spelled than it stood, but for twelve bytes. -/
theorem tok_valid (l : List UInt8) (hc : (tokL l).code = 0) (hne : l ≠ []) : validB (tokL l).kind (tokL l).text (tokL l).n = true ∧ (tokL l).kind ≠ 5 ∧ (spellS (tokL l).kind (tokL l).text (tokL l).n).length + (tokL l).rest.length ≤ l.length + 12 := by
  cases l with
  | nil => exact absurd rfl hne
  | cons c l =>
    by_cases hr : isRunB c = true
    · have e : tokL (c :: l) = clsL (c :: l.takeWhile isRunB) (l.dropWhile isRunB) := by
        unfold tokL; dsimp only; rw [if_pos hr]
      have hlen : (l.takeWhile isRunB).length + (l.dropWhile isRunB).length = l.length := by
        rw [← List.length_append, List.takeWhile_append_dropWhile]
      rw [e] at hc ⊢
      have hall : (c :: l.takeWhile isRunB).all isRunB = true := by rw [List.all_cons, hr, all_tw]; rfl
      unfold clsL at hc ⊢
      by_cases h2 : (numL (c :: l.takeWhile isRunB)).2 = 2
      · rw [if_pos h2] at hc ⊢
        dsimp only at hc ⊢
        refine ⟨?_, by decide, ?_⟩
        · unfold validB
          rw [if_neg (by rintro ⟨_, h⟩; exact h rfl), if_pos rfl, hall, hc]; rfl
        · have : spellS 1 (c :: l.takeWhile isRunB) 0 = c :: l.takeWhile isRunB := by simp [spellS]
          rw [this, List.length_cons, List.length_cons]; omega
      · rw [if_neg h2] at hc ⊢
        dsimp only at hc ⊢
        have hn : 0 ≤ (numL (c :: l.takeWhile isRunB)).1 ∧ (numL (c :: l.takeWhile isRunB)).1 ≤ 1000000000 := by
          revert hc h2
          unfold numL
          dsimp only
          (repeat' split) <;> intro hc h2
          · exact absurd hc (by decide)
          · exact absurd hc (by decide)
          · exact absurd hc (by decide)
          · exact absurd hc (by decide)
          · dsimp only; omega
        refine ⟨?_, by decide, ?_⟩
        · unfold validB
          rw [if_neg (by rintro ⟨h, _⟩; exact h rfl), if_neg (by decide), if_pos rfl]
          simp [hn.1, hn.2]
        · have : spellS 2 [] (numL (c :: l.takeWhile isRunB)).1 = numS (numL (c :: l.takeWhile isRunB)).1.toNat := by
            unfold spellS
            rw [if_neg (by decide), if_pos rfl, if_pos hn]
          have hl := numS_len (numL (c :: l.takeWhile isRunB)).1.toNat (by omega)
          rw [this, List.length_cons]; omega
    · by_cases h34 : c.toNat = 34
      · have e : tokL (c :: l) = textL l := by
          unfold tokL; dsimp only; rw [if_neg hr, if_pos h34]
        rw [e] at hc ⊢
        unfold textL at hc ⊢
        have hlen : (l.takeWhile inStr).length + (l.dropWhile inStr).length = l.length := by
          rw [← List.length_append, List.takeWhile_append_dropWhile]
        cases hd : l.dropWhile inStr with
        | nil => rw [hd] at hc; cases hc
        | cons x r =>
          rw [hd] at hc hlen
          dsimp only at hc ⊢
          by_cases hx : x.toNat = 34
          · rw [if_pos hx] at hc ⊢
            dsimp only at hc ⊢
            refine ⟨?_, by decide, ?_⟩
            · unfold validB
              rw [if_neg (by rintro ⟨_, h⟩; exact h rfl), if_neg (by decide), if_neg (by decide), if_pos rfl, hc]; rfl
            · have : spellS 3 (l.takeWhile inStr) 0 = 34 :: l.takeWhile inStr ++ [34] := by simp [spellS]
              rw [this]
              simp only [List.length_append, List.length_cons, List.length_nil] at hlen ⊢
              omega
          · rw [if_neg hx] at hc; cases hc
      · by_cases h5 : kindOf c.toNat = 5
        · have e : tokL (c :: l) = ⟨4, [c], 0, l, 0⟩ := by
            unfold tokL; dsimp only; rw [if_neg hr, if_neg h34, if_pos h5]
          rw [e]
          dsimp only
          refine ⟨?_, by decide, ?_⟩
          · unfold validB
            rw [if_neg (by rintro ⟨_, h⟩; exact h rfl), if_neg (by decide), if_neg (by decide), if_neg (by decide), if_pos rfl]
            simp [h5]
          · have : spellS 4 [c] 0 = [c] := by simp [spellS]
            rw [this]; simp; omega
        · have e : tokL (c :: l) = ⟨0, [], 0, [], 2⟩ := by
            unfold tokL; dsimp only; rw [if_neg hr, if_neg h34, if_neg h5]
          rw [e] at hc; cases hc
/-- A blank behind what is read whole. -/
theorem skip_blank (l : List UInt8) : skipL false (32 :: l) = skipL false l := by simp [skipL, kindOf]
/-- What a source is lexed to: valid tokens in order, the end at last, and not long when spelled. -/
theorem lex_good : ∀ (f : Nat) (l : List UInt8) (ts : List Tok), l.length < f → lexL f l = .ok ts →
    ∃ us : List Tok, ts = us ++ [endT] ∧ (∀ u ∈ us, validB u.kind u.text u.n = true ∧ u.kind ≠ 5 ∧ 0 < u.rem ∧ u.rem ≤ l.length ∧ u.text.length ≤ l.length) ∧ us.Pairwise (fun a b => b.rem < a.rem) ∧ us.length ≤ l.length ∧
      (us.map fun u => (spellS u.kind u.text u.n).length).sum ≤ l.length + 12 * us.length := by
  intro f
  induction f with
  | zero => intro l ts hf; omega
  | succ f ih =>
    intro l ts hf hx
    have hsk := (skipL_suffix l false).length_le
    simp only [lexL] at hx
    by_cases hc : (tokL (skipL false l)).code = 0
    · have hc2 : ¬ (tokL (skipL false l)).code ≠ 0 := by simp [hc]
      rw [if_neg hc2] at hx
      by_cases h0 : skipL false l = []
      · rw [if_pos h0] at hx
        cases hx
        exact ⟨[], rfl, by simp, by simp, by simp, by simp⟩
      · rw [if_neg h0] at hx
        obtain ⟨h1, h2⟩ := tok_suffix (skipL false l) hc
        obtain ⟨h3, h4⟩ := h2 h0
        obtain ⟨v1, v2, v3⟩ := tok_valid (skipL false l) hc h0
        generalize skipL false l = m at hsk h0 hx h1 h3 h4 v1 v2 v3 hc
        cases hy : lexL f (tokL m).rest with
        | error e => rw [hy] at hx; cases hx
        | ok ws =>
          rw [hy] at hx
          cases hx
          obtain ⟨us, rfl, g1, g2, g3, g4⟩ := ih _ _ (by omega) hy
          have htl : (tokL m).text.length ≤ m.length := by
            have := reads_of_valid v1 v2
            cases m with
            | nil => exact absurd rfl h0
            | cons c r =>
              unfold tokL
              dsimp only
              have hle1 : (r.takeWhile isRunB).length ≤ r.length := (List.takeWhile_prefix _).length_le
              have hle2 : (r.takeWhile inStr).length ≤ r.length := (List.takeWhile_prefix _).length_le
              (repeat' split)
              · unfold clsL; split <;> simp <;> omega
              · unfold textL
                split
                · simp
                · split <;> simp <;> omega
              · simp
              · simp
          refine ⟨⟨(tokL m).kind, (tokL m).text, (tokL m).n, m.length⟩ :: us, rfl, ?_, ?_, ?_, ?_⟩
          · intro u hu
            rcases List.mem_cons.1 hu with rfl | hu
            · exact ⟨v1, v2, List.length_pos_iff.2 h0, hsk, by dsimp only; omega⟩
            · obtain ⟨a1, a2, a3, a4, a5⟩ := g1 u hu
              exact ⟨a1, a2, a3, by omega, by omega⟩
          · refine List.pairwise_cons.2 ⟨fun b hb => ?_, g2⟩
            have := (g1 b hb).2.2.2.1
            dsimp only; omega
          · simp only [List.length_cons]; omega
          · simp only [List.map_cons, List.sum_cons, List.length_cons]
            omega
    · rw [if_pos (show (tokL (skipL false l)).code ≠ 0 from hc)] at hx
      cases hx
/-- The end of a source of n bytes. -/
abbrev endS (n : Nat) : S46 := Tok.at_ n ⟨5, [], 0, 0⟩
/-- What Parse answers for a source: a fault of its bytes, or of its tokens, or its entries. -/
inductive PA (s : ByteArray) : List S41 × Int × Int → Prop
  | byte (e : Int × Nat) : lexL (s.size + 1) (lst s) = .error e → PA s ([], e.1, (s.size : Int) - e.2)
  | tok (us : List Tok) (e : Int × Int) : lexL (s.size + 1) (lst s) = .ok (us ++ [endT]) → RL 0 (us.map (Tok.at_ s.size) ++ [endS s.size]) (.error e) → PA s ([], e.1, e.2)
  | good (us : List Tok) (cs : List S41) : lexL (s.size + 1) (lst s) = .ok (us ++ [endT]) → RL 0 (us.map (Tok.at_ s.size) ++ [endS s.size]) (.ok (cs, [endS s.size])) → PA s (cs, 0, 0)
theorem toks_good (s : ByteArray) {us : List Tok} (h : lexL (s.size + 1) (lst s) = .ok (us ++ [endT])) :
    (∀ u ∈ us, validB u.kind u.text u.n = true ∧ u.kind ≠ 5 ∧ 0 < u.rem ∧ u.rem ≤ s.size ∧ u.text.length ≤ s.size) ∧ us.Pairwise (fun a b => b.rem < a.rem) ∧ us.length ≤ s.size := by
  obtain ⟨vs, e, g1, g2, g3, _⟩ := lex_good _ _ _ (by rw [lst_length]; omega) h
  obtain rfl : us = vs := List.append_cancel_right e
  rw [lst_length] at g1 g3
  exact ⟨g1, g2, g3⟩
theorem RL_end {z : S46} (hz : z.f0 = 5) {us : List S46} (hu : ∀ u ∈ us, u.f0 ≠ 5) : ∃ x, RL 0 (us ++ [z]) x ∧ ∀ cs r, x = .ok (cs, r) → r = [z] := by
  obtain ⟨x, h1, h2⟩ := RL.total z hz us.length 0 us (by omega) (by omega) hu
  refine ⟨x, h1, fun cs r hx => ?_⟩
  obtain ⟨q, rfl, _, hq⟩ := h2 cs r hx
  obtain ⟨t, r0, p, e1, _, e3, _⟩ := h1.frame _ _ hx
  cases q with
  | nil => rfl
  | cons a q =>
    simp at e1
    obtain ⟨rfl, _⟩ := e1
    simp [stopT] at e3
    exact absurd e3 (hq a (by simp))
theorem PA.ex (s : ByteArray) : ∃ y, PA s y := by
  cases hx : lexL (s.size + 1) (lst s) with
  | error e => exact ⟨_, PA.byte e hx⟩
  | ok ts =>
    obtain ⟨us, rfl, g1, g2, g3, _⟩ := lex_good _ _ _ (by rw [lst_length]; omega) hx
    obtain ⟨x, h1, h2⟩ := RL_end (z := endS s.size) rfl (us := us.map (Tok.at_ s.size)) (by
      intro u hu
      obtain ⟨v, hv, rfl⟩ := List.mem_map.1 hu
      exact (g1 v hv).2.1)
    cases x with
    | error e => exact ⟨_, PA.tok us e hx h1⟩
    | ok p =>
      obtain ⟨cs, r⟩ := p
      obtain rfl := h2 cs r rfl
      exact ⟨_, PA.good us cs hx h1⟩
theorem PA.code {s : ByteArray} {y : List S41 × Int × Int} (h : PA s y) : y.2.1 = 0 ∨ (y.2.1 ≠ 0 ∧ y.1 = []) := by
  cases h with
  | byte e h => exact .inr ⟨lexL_code _ _ _ h, rfl⟩
  | tok us e h h1 => exact .inr ⟨by have := h1.code _ rfl; show e.1 ≠ 0; omega, rfl⟩
  | good => exact .inl rfl
theorem lexed_len (s : ByteArray) {us : List Tok} (h : lexL (s.size + 1) (lst s) = .ok (us ++ [endT])) : (us.map (Tok.at_ s.size) ++ [endS s.size]).length ≤ s.size + 1 := by
  have := (toks_good s h).2.2
  simp; omega
theorem lexAns_ok (s : ByteArray) {us : List Tok} (h : lexL (s.size + 1) (lst s) = .ok (us ++ [endT])) : lexAns s.size [] (lexL (s.size + 1) (lst s)) = (us.map (Tok.at_ s.size) ++ [endS s.size], 0, 0) := by
  rw [h]
  simp [lexAns]
theorem Parse_f (s : ByteArray) (hs : s.size ≤ 65536) {y : List S41 × Int × Int} (h : PA s y) : Ev (fun k => parser_Parse.f k s) y := by
  unfold parser_Parse.f
  refine Ev.bind (Lex_f s hs) ?_
  cases h with
  | byte e h =>
    rw [h]
    exact Ev.ifn (lexL_code _ _ _ h) (Ev.now _)
  | tok us e h h1 =>
    rw [lexAns_ok s h]
    obtain ⟨y, g1, g2⟩ := entries_f _ (by have := lexed_len s h; omega) h1
    refine Ev.ifp rfl (Ev.bind g1 ?_)
    have hc := h1.code _ rfl
    simp only [goodA] at g2
    refine Ev.ifn ?_ (Ev.ret ?_)
    · rw [g2]; omega
    · rw [g2]
  | good us cs h h1 =>
    rw [lexAns_ok s h]
    obtain ⟨y, g1, g2⟩ := entries_f _ (by have := lexed_len s h; omega) h1
    refine Ev.ifp rfl (Ev.bind g1 ?_)
    simp only [goodA, List.nil_append] at g2
    rw [g2]
    exact Ev.ifp rfl (Ev.now _)
theorem at_valid (s : ByteArray) (hs : s.size ≤ 900000) {us : List Tok} (h : lexL (s.size + 1) (lst s) = .ok (us ++ [endT])) : ∀ t ∈ us.map (Tok.at_ s.size) ++ [endS s.size], validB t.f0 (lst t.f1) t.f2 = true ∧ t.f1.size ≤ 900000 := by
  obtain ⟨g1, _⟩ := toks_good s h
  intro t ht
  rcases List.mem_append.1 ht with ht | ht
  · obtain ⟨u, hu, rfl⟩ := List.mem_map.1 ht
    obtain ⟨a, b, c, d, e⟩ := g1 u hu
    refine ⟨a, ?_⟩
    show (str u.text).size ≤ 900000
    rw [size_str]; omega
  · rw [List.mem_singleton] at ht
    subst ht
    exact ⟨rfl, by show (str []).size ≤ 900000; simp⟩
/-- The entries of an accepted source: bounded, possible, and as many tokens. -/
theorem PA.facts {s : ByteArray} (hs : s.size ≤ 200000) {cs : List S41} {a : Int} (h : PA s (cs, 0, a)) :
    ∃ us, lexL (s.size + 1) (lst s) = .ok (us ++ [endT]) ∧ RL 0 (us.map (Tok.at_ s.size) ++ [endS s.size]) (.ok (cs, [endS s.size])) ∧ szL cs ≤ s.size ∧ depL cs ≤ 8 ∧ (toksL cs).length = us.length ∧ formL cs = true ∧ AllC (txt 900000) cs ∧ chkL cs = 0 ∧ us.length ≤ s.size ∧ a = 0 := by
  generalize hy : (cs, (0 : Int), a) = y at h
  cases h with
  | byte e h => injection hy with _ h2; injection h2 with h2 _; exact absurd h2.symm (lexL_code _ _ _ h)
  | tok us e h h1 => injection hy with _ h2; injection h2 with h2 _; have := h1.code _ rfl; omega
  | good us cs' h h1 =>
    injection hy with e1 e2
    subst e1
    obtain ⟨f1, f2, f3⟩ := h1.facts (by omega) _ _ rfl
    obtain ⟨k1, k2⟩ := h1.form (at_valid s (by omega) h) _ _ rfl
    have hl := lexed_len s h
    simp at f1 f3 hl
    refine ⟨us, h, h1, by omega, by omega, by omega, k1, k2, ?_, by omega, by simpa using (Prod.mk.inj e2).2⟩
    unfold chkL
    rw [if_pos k1, if_neg (by omega)]
theorem tw_app {α : Type} (p : α → Bool) (l m : List α) (h : l.dropWhile p ≠ [] ∨ ∀ c x, m = c :: x → p c = false) : (l ++ m).takeWhile p = l.takeWhile p ∧ (l ++ m).dropWhile p = l.dropWhile p ++ m := by
  induction l with
  | nil =>
    rcases h with h | h
    · exact absurd rfl h
    · cases m with
      | nil => exact ⟨rfl, rfl⟩
      | cons c x => have := h c x rfl; simp [this]
  | cons a l ih =>
    cases ha : p a with
    | true =>
      have := ih (by simpa [List.dropWhile_cons, ha] using h)
      simp [List.takeWhile_cons, List.dropWhile_cons, ha, this.1, this.2]
    | false => simp [List.takeWhile_cons, List.dropWhile_cons, ha]
theorem tw_cut {α : Type} (p : α → Bool) (l q : List α) (h : q.length ≤ ((l ++ q).dropWhile p).length) : (l ++ q).takeWhile p = l.takeWhile p ∧ (l ++ q).dropWhile p = l.dropWhile p ++ q := by
  induction l with
  | nil =>
    cases q with
    | nil => exact ⟨rfl, rfl⟩
    | cons a q =>
      cases ha : p a with
      | true =>
        simp only [List.nil_append, List.dropWhile_cons, ha, if_true, List.length_cons] at h
        have := (List.dropWhile_suffix p (l := q)).length_le
        omega
      | false => simp [ha]
  | cons a l ih =>
    cases ha : p a with
    | true =>
      have := ih (by simpa [List.dropWhile_cons, ha] using h)
      simp [List.takeWhile_cons, List.dropWhile_cons, ha, this.1, this.2]
    | false => simp [List.takeWhile_cons, List.dropWhile_cons, ha]
theorem cls_eq (t r r' : List UInt8) : clsL t r' = ⟨(clsL t r).kind, (clsL t r).text, (clsL t r).n, r', (clsL t r).code⟩ := by
  unfold clsL
  split <;> rfl
theorem cls_rest (t r : List UInt8) : (clsL t r).rest = r ∧ ((clsL t r).kind = 1 ∨ (clsL t r).kind = 2) := by
  unfold clsL
  split <;> simp
theorem text_nil (l : List UInt8) (hd : l.dropWhile inStr = []) : textL l = ⟨0, [], 0, [], 2⟩ := by
  unfold textL; rw [hd]
theorem text_cons (l : List UInt8) (x : UInt8) (y : List UInt8) (hd : l.dropWhile inStr = x :: y) : textL l = if x.toNat = 34 then ⟨3, l.takeWhile inStr, 0, y, titleL (l.takeWhile inStr)⟩ else ⟨0, [], 0, [], 2⟩ := by
  unfold textL; rw [hd]
/-- A token with more bytes behind it. -/
theorem tok_app (l m : List UInt8) (hl : l ≠ []) (hc : (tokL l).code = 0) (hm : (tokL l).kind = 3 ∨ (tokL l).kind = 4 ∨ ∀ c x, m = c :: x → isRunB c = false) :
    tokL (l ++ m) = ⟨(tokL l).kind, (tokL l).text, (tokL l).n, (tokL l).rest ++ m, 0⟩ := by
  cases l with
  | nil => exact absurd rfl hl
  | cons c l =>
    by_cases hrun : isRunB c = true
    · have e1 : ∀ x, tokL (c :: x) = clsL (c :: x.takeWhile isRunB) (x.dropWhile isRunB) := by
        intro x; unfold tokL; dsimp only; rw [if_pos hrun]
      rw [List.cons_append, e1, e1]
      rw [e1] at hc hm
      obtain ⟨r1, r2⟩ := cls_rest (c :: l.takeWhile isRunB) (l.dropWhile isRunB)
      have hm' : ∀ c x, m = c :: x → isRunB c = false := by
        rcases hm with h | h | h
        · omega
        · omega
        · exact h
      obtain ⟨t1, t2⟩ := tw_app isRunB l m (.inr hm')
      rw [t1, t2, cls_eq _ (l.dropWhile isRunB), hc, r1]
    · by_cases h34 : c.toNat = 34
      · have e1 : ∀ x, tokL (c :: x) = textL x := by
          intro x; unfold tokL; dsimp only; rw [if_neg hrun, if_pos h34]
        rw [List.cons_append, e1, e1]
        rw [e1] at hc
        cases hd : l.dropWhile inStr with
        | nil => rw [text_nil l hd] at hc; cases hc
        | cons x y =>
          obtain ⟨t1, t2⟩ := tw_app inStr l m (.inl (by rw [hd]; simp))
          rw [hd] at t2
          rw [text_cons _ _ _ t2, text_cons l x y hd, t1]
          rw [text_cons l x y hd] at hc
          by_cases hx : x.toNat = 34
          · rw [if_pos hx] at hc
            rw [if_pos hx, if_pos hx]
            dsimp only at hc ⊢
            rw [hc]
            rfl
          · rw [if_neg hx] at hc; cases hc
      · by_cases h5 : kindOf c.toNat = 5
        · have e : ∀ x, tokL (c :: x) = ⟨4, [c], 0, x, 0⟩ := by
            intro m; unfold tokL; dsimp only; rw [if_neg hrun, if_neg h34, if_pos h5]
          rw [List.cons_append, e, e]
        · have e : tokL (c :: l) = ⟨0, [], 0, [], 2⟩ := by
            unfold tokL; dsimp only; rw [if_neg hrun, if_neg h34, if_neg h5]
          rw [e] at hc; cases hc
/-- A token that ends ahead of what is cut away. -/
theorem tok_cut (z q : List UInt8) (hz : z ≠ []) (hc : (tokL (z ++ q)).code = 0) (hr : q.length ≤ (tokL (z ++ q)).rest.length) :
    ∃ y, (tokL (z ++ q)).rest = y ++ q ∧ tokL z = ⟨(tokL (z ++ q)).kind, (tokL (z ++ q)).text, (tokL (z ++ q)).n, y, 0⟩ := by
  cases z with
  | nil => exact absurd rfl hz
  | cons c l =>
    rw [List.cons_append] at hc hr ⊢
    by_cases hrun : isRunB c = true
    · have e1 : ∀ x, tokL (c :: x) = clsL (c :: x.takeWhile isRunB) (x.dropWhile isRunB) := by
        intro x; unfold tokL; dsimp only; rw [if_pos hrun]
      rw [e1] at hc hr
      rw [(cls_rest _ _).1] at hr
      obtain ⟨t1, t2⟩ := tw_cut isRunB l q hr
      rw [e1, e1, t1, t2]
      rw [t1, t2] at hc
      rw [cls_eq _ (l.dropWhile isRunB)] at hc
      refine ⟨l.dropWhile isRunB, (cls_rest _ _).1, ?_⟩
      rw [cls_eq _ (l.dropWhile isRunB) (l.dropWhile isRunB ++ q)]
      dsimp only at hc ⊢
      rw [← hc]
      conv => lhs; rw [cls_eq _ (l.dropWhile isRunB) (l.dropWhile isRunB)]
    · by_cases h34 : c.toNat = 34
      · have e1 : ∀ x, tokL (c :: x) = textL x := by
          intro x; unfold tokL; dsimp only; rw [if_neg hrun, if_pos h34]
        rw [e1] at hc hr
        rw [e1, e1]
        have hq : q.length ≤ ((l ++ q).dropWhile inStr).length := by
          cases hd : (l ++ q).dropWhile inStr with
          | nil => rw [text_nil _ hd] at hr; simpa using hr
          | cons x y =>
            rw [text_cons _ _ _ hd] at hr
            split at hr
            · simp at hr ⊢; omega
            · simp at hr; simp [hr]
        obtain ⟨t1, t2⟩ := tw_cut inStr l q hq
        cases hd : l.dropWhile inStr with
        | nil =>
          exfalso
          rw [hd, List.nil_append] at t2
          cases q with
          | nil => rw [text_nil _ t2] at hc; cases hc
          | cons x y =>
            rw [text_cons _ _ _ t2] at hc hr
            split at hr
            · simp at hr; omega
            · simp at hr
        | cons x y =>
          rw [hd] at t2
          rw [text_cons _ _ _ t2] at hc ⊢
          rw [text_cons l x y hd, ← t1]
          by_cases hx : x.toNat = 34
          · rw [if_pos hx] at hc ⊢
            rw [if_pos hx]
            dsimp only at hc ⊢
            exact ⟨y, rfl, by rw [hc]⟩
          · rw [if_neg hx] at hc; cases hc
      · by_cases h5 : kindOf c.toNat = 5
        · have e : ∀ x, tokL (c :: x) = ⟨4, [c], 0, x, 0⟩ := by
            intro m; unfold tokL; dsimp only; rw [if_neg hrun, if_neg h34, if_pos h5]
          rw [e, e]
          exact ⟨l, rfl, rfl⟩
        · have e : tokL (c :: (l ++ q)) = ⟨0, [], 0, [], 2⟩ := by
            unfold tokL; dsimp only; rw [if_neg hrun, if_neg h34, if_neg h5]
          rw [e] at hc; cases hc
theorem skip_app : ∀ (l m : List UInt8) (b : Bool), skipL b l ≠ [] → skipL b (l ++ m) = skipL b l ++ m
  | [], m, b, h => by cases b <;> exact absurd rfl h
  | c :: l, m, true, h => by
    unfold skipL at h ⊢
    rw [List.cons_append]
    dsimp only at h ⊢
    split
    · rename_i hc
      rw [if_pos hc] at h
      exact skip_app l m false h
    · rename_i hc
      rw [if_neg hc] at h
      exact skip_app l m true h
  | c :: l, m, false, h => by
    unfold skipL at h ⊢
    rw [List.cons_append]
    dsimp only at h ⊢
    split
    · rename_i hc
      rw [if_pos hc] at h
      exact skip_app l m true h
    · rename_i hc
      rw [if_neg hc] at h
      split
      · rename_i h1
        rw [if_pos h1] at h
        exact skip_app l m false h
      · rfl
theorem sk1 (c : UInt8) (l : List UInt8) : skipL true (c :: l) = if c.toNat = 10 then skipL false l else skipL true l := by rw [skipL]
theorem sk0 (c : UInt8) (l : List UInt8) : skipL false (c :: l) = if c.toNat = 35 then skipL true l else if kindOf c.toNat = 1 then skipL false l else c :: l := by rw [skipL]
/-- A line break behind blanks and comments. -/
theorem skip_line : ∀ (l m : List UInt8) (b : Bool), skipL b l = [] → skipL b (l ++ 10 :: m) = skipL false m
  | [], m, true, _ => by rw [List.nil_append, sk1]; rfl
  | [], m, false, _ => by rw [List.nil_append, sk0]; rfl
  | c :: l, m, true, h => by
    rw [List.cons_append, sk1]
    rw [sk1] at h
    split
    · rename_i hc
      rw [if_pos hc] at h
      exact skip_line l m false h
    · rename_i hc
      rw [if_neg hc] at h
      exact skip_line l m true h
  | c :: l, m, false, h => by
    rw [List.cons_append, sk0]
    rw [sk0] at h
    split
    · rename_i hc
      rw [if_pos hc] at h
      exact skip_line l m true h
    · rename_i hc
      rw [if_neg hc] at h
      split
      · rename_i h1
        rw [if_pos h1] at h
        exact skip_line l m false h
      · rename_i h1
        rw [if_neg h1] at h
        cases h
theorem run10 : isRunB 10 = false := by decide
def Tok.up (d : Nat) (t : Tok) : Tok := ⟨t.kind, t.text, t.n, t.rem + d⟩
/-- The tokens of a source, a line break and another source. -/
theorem lex_line (m : List UInt8) (vs : List Tok) (g : Nat) (hg : lexL g m = .ok vs) (hgm : m.length < g) : ∀ (f : Nat) (l : List UInt8) (us : List Tok), l.length < f → lexL f l = .ok (us ++ [endT]) →
    ∀ F, (l ++ 10 :: m).length < F → lexL F (l ++ 10 :: m) = .ok (us.map (Tok.up (m.length + 1)) ++ vs) := by
  intro f
  induction f with
  | zero => intro l us hf; omega
  | succ f ih =>
    intro l us hf hx F hF
    obtain ⟨F, rfl⟩ : ∃ F', F = F' + 1 := ⟨F - 1, by simp at hF; omega⟩
    simp only [lexL] at hx
    have hsk := (skipL_suffix l false).length_le
    by_cases h0 : skipL false l = []
    · rw [h0] at hx
      rw [if_neg (by simp [tokL]), if_pos rfl] at hx
      injection hx with hx
      have : us = [] := by
        cases us with
        | nil => rfl
        | cons u us => have := congrArg List.length hx; simp at this
      subst this
      rw [List.map_nil, List.nil_append, lexL_skip F _ m (skip_line l m false h0), lexL_fuel (F + 1) g m (by simp at hF; omega) hgm]
      exact hg
    · by_cases hc : (tokL (skipL false l)).code = 0
      · rw [if_neg (by simp [hc]), if_neg h0] at hx
        obtain ⟨h1, h2⟩ := tok_suffix (skipL false l) hc
        obtain ⟨h3, h4⟩ := h2 h0
        cases hy : lexL f (tokL (skipL false l)).rest with
        | error e => rw [hy] at hx; cases hx
        | ok ws =>
          rw [hy] at hx
          injection hx with hx
          cases us with
          | nil =>
            exfalso
            obtain ⟨us', e, _⟩ := lex_good f _ ws (by omega) hy
            rw [e] at hx
            have := congrArg List.length hx
            simp at this
          | cons u us =>
            rw [List.cons_append] at hx
            injection hx with hu hus
            subst hus
            have hr := ih _ us (by omega) hy F (by
              have := h3; simp at hF ⊢; omega)
            simp only [lexL]
            rw [skip_app l _ false h0, tok_app _ _ h0 hc (.inr (.inr (by intro c x e; injection e with e _; subst e; exact run10)))]
            rw [if_neg (by simp), if_neg (by simp [h0])]
            dsimp only
            rw [hr]
            dsimp only
            rw [List.map_cons, List.cons_append, ← hu]
            simp [Tok.up]
      · rw [if_pos (show (tokL (skipL false l)).code ≠ 0 from hc)] at hx
        cases hx
def Tok.down (d : Nat) (t : Tok) : Tok := ⟨t.kind, t.text, t.n, t.rem - d⟩
/-- The tokens of what stands in front of a token. -/
theorem lex_cut (q : List UInt8) (v : Tok) (hv : v.rem = q.length) (hvk : v.kind ≠ 5) : ∀ (f : Nat) (x : List UInt8) (us ws : List Tok), (x ++ q).length < f → lexL f (x ++ q) = .ok (us ++ v :: ws) → (∀ u ∈ us, q.length < u.rem) →
    ∀ F, x.length < F → lexL F x = .ok (us.map (Tok.down q.length) ++ [endT]) := by
  intro f
  induction f with
  | zero => intro x us ws hf; omega
  | succ f ih =>
    intro x us ws hf hx hu F hF
    obtain ⟨F, rfl⟩ : ∃ F', F = F' + 1 := ⟨F - 1, by omega⟩
    have hlex := hx
    simp only [lexL] at hx
    have hsx := skipL_suffix (x ++ q) false
    have hsk := hsx.length_le
    by_cases hc : (tokL (skipL false (x ++ q))).code = 0
    · rw [if_neg (by simp [hc])] at hx
      by_cases h0 : skipL false (x ++ q) = []
      · rw [if_pos h0] at hx
        injection hx with hx
        exfalso
        cases us with
        | nil => injection hx with e _; subst e; exact hvk rfl
        | cons u us => have := congrArg List.length hx; simp at this
      · rw [if_neg h0] at hx
        obtain ⟨h1, h2⟩ := tok_suffix _ hc
        obtain ⟨h3, h4⟩ := h2 h0
        cases hy : lexL f (tokL (skipL false (x ++ q))).rest with
        | error e => rw [hy] at hx; cases hx
        | ok zs =>
          rw [hy] at hx
          injection hx with hx
          have hw : skipL false x = [] ∨ skipL false (x ++ q) = skipL false x ++ q := by
            by_cases h : skipL false x = []
            · exact .inl h
            · exact .inr (skip_app x q false h)
          cases us with
          | nil =>
            rw [List.nil_append] at hx
            injection hx with e _
            have hl : (skipL false (x ++ q)).length = q.length := by rw [← hv, ← e]
            have hx0 : skipL false x = [] := by
              rcases hw with h | h
              · exact h
              · rw [h, List.length_append] at hl
                exact List.eq_nil_of_length_eq_zero (by omega)
            simp only [lexL]
            rw [hx0, if_neg (by simp [tokL]), if_pos rfl]
            rfl
          | cons u us =>
            rw [List.cons_append] at hx
            injection hx with e hzs
            have hur := hu u (by simp)
            rw [← e] at hur
            dsimp only at hur
            have hx1 : skipL false (x ++ q) = skipL false x ++ q := by
              rcases hw with h | h
              · exfalso
                -- all of x is skipped: what is left lies within q
                have key : ∀ (a m : List UInt8) (b : Bool), skipL b a = [] → (skipL b (a ++ m)).length ≤ m.length := by
                  intro a
                  induction a with
                  | nil => intro m b _; exact skipL_le b m
                  | cons c a iha =>
                    intro m b hb
                    cases b with
                    | true =>
                      unfold skipL at hb ⊢
                      rw [List.cons_append]
                      dsimp only at hb ⊢
                      split
                      · rename_i hc'; rw [if_pos hc'] at hb; exact iha m false hb
                      · rename_i hc'; rw [if_neg hc'] at hb; exact iha m true hb
                    | false =>
                      unfold skipL at hb ⊢
                      rw [List.cons_append]
                      dsimp only at hb ⊢
                      split
                      · rename_i hc'; rw [if_pos hc'] at hb; exact iha m true hb
                      · rename_i hc'
                        rw [if_neg hc'] at hb
                        split
                        · rename_i hd; rw [if_pos hd] at hb; exact iha m false hb
                        · rename_i hd; rw [if_neg hd] at hb; cases hb
                have := key x q false h
                omega
              · exact h
            have hz : skipL false x ≠ [] := by
              intro h
              rw [hx1, h, List.nil_append] at hur
              omega
            rw [hx1] at hc h1 h3 hy hur hsk
            have hrest : q.length ≤ (tokL (skipL false x ++ q)).rest.length := by
              -- the next token stands there
              have hz2 : ∃ w ws', zs = w :: ws' ∧ q.length ≤ w.rem := by
                cases us with
                | nil => exact ⟨v, ws, hzs, by omega⟩
                | cons w us => exact ⟨w, us ++ v :: ws, hzs, by have := hu w (by simp); omega⟩
              obtain ⟨w, ws', e2, hwl⟩ := hz2
              obtain ⟨us'', e3, g1, _⟩ := lex_good f _ zs (by omega) hy
              rw [e3] at e2
              cases us'' with
              | nil =>
                exfalso
                rw [e3] at hzs
                cases us with
                | nil => injection hzs with a _; subst a; exact hvk rfl
                | cons w' us => have := congrArg List.length hzs; simp at this
              | cons w2 us'' =>
                injection e2 with e4 _
                subst e4
                have := (g1 w2 (by simp)).2.2.2.1
                omega
            obtain ⟨y, k1, k2⟩ := tok_cut _ q hz hc hrest
            rw [k1] at hy h3
            have hl2 := (skipL_suffix x false).length_le
            have hy2 : y.length < (skipL false x).length := by simp at h3; omega
            have hi := ih y us ws (by simp at hf ⊢; omega) (by rw [hy, hzs]) (fun u hm => hu u (by simp [hm])) F (by omega)
            simp only [lexL]
            rw [k2, if_neg (by simp), if_neg hz]
            dsimp only
            rw [hi]
            dsimp only
            rw [List.map_cons, List.cons_append, ← e, hx1]
            simp [Tok.down]
    · rw [if_pos (show (tokL (skipL false (x ++ q))).code ≠ 0 from hc)] at hx
      cases hx
/-! ### spelled tokens with gaps -/
abbrev KTN := Int × List UInt8 × Int
def Tok.key (t : Tok) : KTN := (t.kind, t.text, t.n)
/-- Tokens, each with the bytes behind it. -/
def emit : List (KTN × List UInt8) → List UInt8
  | [] => []
  | (u, g) :: l => spellS u.1 u.2.1 u.2.2 ++ (g ++ emit l)
/-- Bytes that are skipped. -/
def gapB (g : List UInt8) : Prop := ∀ x, skipL false (g ++ x) = skipL false x
def emitOk : List (KTN × List UInt8) → Prop
  | [] => True
  | (u, g) :: l => validB u.1 u.2.1 u.2.2 = true ∧ u.1 ≠ 5 ∧ gapB g ∧ (u.1 = 3 ∨ u.1 = 4 ∨ ∀ c x, g ++ emit l = c :: x → isRunB c = false) ∧ emitOk l
theorem relex2 : ∀ (us : List (KTN × List UInt8)) (f : Nat), us.length < f → emitOk us → ∃ vs, lexL f (emit us) = .ok (vs ++ [endT]) ∧ vs.map Tok.key = us.map Prod.fst := by
  intro us
  induction us with
  | nil =>
    intro f hf _
    cases f with
    | zero => simp at hf
    | succ f => exact ⟨[], rfl, rfl⟩
  | cons p us ih =>
    obtain ⟨u, g⟩ := p
    intro f hf h
    obtain ⟨hv, h5, hg, ha, ho⟩ := h
    cases f with
    | zero => simp at hf
    | succ f =>
      simp at hf
      obtain ⟨vs, g1, g2⟩ := ih f (by omega) ho
      obtain ⟨⟨hc, hr, hk, ht, hn⟩, hne, _⟩ := reads_of_valid hv h5
      have hap := tok_app _ (g ++ emit us) hne hc (by rw [hk]; exact ha)
      rw [hr, hk, ht, hn, List.nil_append] at hap
      cases hx : spellS u.1 u.2.1 u.2.2 with
      | nil => exact absurd hx hne
      | cons c m =>
        rw [hx] at hap
        have hs := skip_tok c (m ++ (g ++ emit us)) (by rw [← List.cons_append, hap])
        rw [← List.cons_append] at hs
        obtain ⟨f', rfl⟩ : ∃ f', f = f' + 1 := ⟨f - 1, by omega⟩
        refine ⟨⟨u.1, u.2.1, u.2.2, (c :: m ++ (g ++ emit us)).length⟩ :: vs, ?_, by simp [Tok.key, g2]⟩
        simp only [emit, hx]
        rw [lexL]
        simp only [hs, hap]
        rw [if_neg (by simp), if_neg (by simp), lexL_skip f' _ _ (hg (emit us)), g1]
        rfl
/-- A token apart from its offset. -/
def k3 (t : S46) : KTN := (t.f0, lst t.f1, t.f2)
theorem k3_at (n : Nat) (t : Tok) : k3 (Tok.at_ n t) = t.key := rfl
theorem k3_eq {s t : S46} (h : k3 s = k3 t) : s.f0 = t.f0 ∧ s.f1 = t.f1 ∧ s.f2 = t.f2 := by
  unfold k3 at h
  injection h with h0 h
  injection h with h1 h2
  exact ⟨h0, lst_inj h1, h2⟩
theorem k3_key {s t : S46} (h : k3 s = k3 t) : keyT false s = keyT false t := by
  obtain ⟨a, b, c⟩ := k3_eq h
  unfold keyT
  rw [a, b, c]
  rfl
theorem k3_isS {s t : S46} (h : k3 s = k3 t) (c : UInt8) : isS s c = isS t c := by
  obtain ⟨a, b, _⟩ := k3_eq h
  unfold isS
  rw [a, b]
theorem k3_isA {s t : S46} (h : k3 s = k3 t) : isA s = isA t := by
  unfold isA
  rw [k3_isS h, k3_isS h, k3_isS h, (k3_eq h).1]
theorem map_key {ats bs : List S46} (h : ats.map k3 = bs.map k3) : ats.map (keyT false) = bs.map (keyT false) := by
  induction ats generalizing bs with
  | nil => cases bs with
    | nil => rfl
    | cons b bs => cases h
  | cons a ats ih => cases bs with
    | nil => cases h
    | cons b bs =>
      injection h with h1 h2
      rw [List.map_cons, List.map_cons, ih h2, k3_key h1]
theorem map_isA {ats bs : List S46} (h : ats.map k3 = bs.map k3) (hb : ∀ b ∈ bs, isA b = true) : ∀ a ∈ ats, isA a = true := by
  induction ats generalizing bs with
  | nil => intro a ha; cases ha
  | cons a ats ih => cases bs with
    | nil => cases h
    | cons b bs =>
      injection h with h1 h2
      intro x hx
      rcases List.mem_cons.1 hx with rfl | hx
      · rw [k3_isA h1]; exact hb b (by simp)
      · exact ih h2 (fun y hy => hb y (by simp [hy])) x hx
theorem map_cons_inv {ts : List S46} {x : KTN} {ys : List KTN} (h : ts.map k3 = x :: ys) : ∃ t r, ts = t :: r ∧ k3 t = x ∧ r.map k3 = ys := by
  cases ts with
  | nil => cases h
  | cons t r => injection h with a b; exact ⟨t, r, rfl, a, b⟩
theorem map_app_inv : ∀ {ts : List S46} {xs ys : List KTN}, ts.map k3 = xs ++ ys → ∃ a b, ts = a ++ b ∧ a.map k3 = xs ∧ b.map k3 = ys
  | ts, [], ys, h => ⟨[], ts, rfl, rfl, h⟩
  | ts, x :: xs, ys, h => by
    obtain ⟨t, r, rfl, h1, h2⟩ := map_cons_inv h
    obtain ⟨a, b, rfl, h3, h4⟩ := map_app_inv h2
    exact ⟨t :: a, b, rfl, by rw [List.map_cons, h1, h3], h4⟩
theorem sg_isS (c d : UInt8) : isS (sgT c) d = (c == d) := by
  unfold isS sgT lst
  simp
/-- The tokens of what was read. -/
theorem RL.keys {o : Nat} {ts : List S46} {x : Ans} (h : RL o ts x) : (∀ t ∈ ts, validB t.f0 (lst t.f1) t.f2 = true) → ∀ cs r, x = .ok (cs, r) → ts.map k3 = (toksL cs).map k3 ++ r.map k3 := by
  have hz : ∀ t : S46, validB t.f0 (lst t.f1) t.f2 = true → t.f0 ≠ 2 → t.f2 = 0 := by
    intro t hv h1
    by_cases hn : t.f2 = 0
    · exact hn
    · unfold validB at hv
      rw [if_pos ⟨h1, hn⟩] at hv
      cases hv
  have hw : ∀ t : S46, validB t.f0 (lst t.f1) t.f2 = true → t.f0 = 1 → k3 t = k3 ⟨1, t.f1, 0, 0⟩ := by
    intro t hv h1
    unfold k3
    rw [hz t hv (by omega), h1]
  have hs : ∀ (t : S46) (c : UInt8), validB t.f0 (lst t.f1) t.f2 = true → isS t c = true → k3 t = k3 (sgT c) := by
    intro t c hv h1
    have h0 := isS_f0 h1
    unfold isS at h1
    simp only [Bool.and_eq_true, beq_iff_eq] at h1
    unfold k3 sgT
    rw [hz t hv (by omega), h0, h1.2]
    rfl
  induction h with
  | stop o t r => intro hv cs r' hx; cases hx; simp [toksL]
  | bad => intro _ cs r hx; cases hx
  | semi o t ats u r x h1 h2 h3 hr ih =>
    intro hv cs q hx
    cases x with
    | error e => cases hx
    | ok y =>
      cases hx
      have g := ih (fun a ha => hv a (by simp [ha])) _ _ rfl
      rw [toksL]
      simp only [List.map_cons, List.map_append, g, hw t (hv t (by simp)) h1, hs u 59 (hv u (by simp)) h3]
      simp
  | syn => intro _ cs r hx; cases hx
  | lim => intro _ cs r hx; cases hx
  | blk o t ats u r ks b q x ho h1 h2 h3 hk hr ihk ih =>
    intro hv cs q' hx
    cases x with
    | error e => cases hx
    | ok y =>
      cases hx
      have g := ihk (fun a ha => hv a (by simp [ha])) _ _ rfl
      obtain ⟨b', q0, pk, f1, f2, f3, f4, f5⟩ := hk.frame _ _ rfl
      cases f1
      have hq := ih (fun a ha => hv a (by rw [f4]; simp [ha])) _ _ rfl
      have hb : isS b 125 = true := by simpa [stopT] using f3
      rw [toksL]
      simp only [List.map_cons, List.map_append, g, hq, hw t (hv t (by simp)) h1, hs u 123 (hv u (by simp)) h3, hs b 125 (hv b (by rw [f4]; simp)) hb]
      simp
  | blkF => intro _ cs r hx; cases hx
/-- The tokens of possible entries are read as these. -/
theorem read_toks : ∀ l, formL l = true → szL l ≤ 900000 → ∀ o, depL l + o ≤ 8 → ∀ ts, ts.map k3 = (toksL l).map k3 → ∀ r x, RL o r x → ∃ cs, SmL false cs l ∧ RL o (ts ++ r) (pre cs x) := by
  refine indL ?_ ?_
  · intro _ _ o _ ts hts r x hx
    have : ts = [] := by
      rw [toksL] at hts
      cases ts with
      | nil => rfl
      | cons t r => cases hts
    subst this
    refine ⟨[], SmL.nil, ?_⟩
    cases x <;> simpa [pre] using hx
  · intro c l h1 h2 hf hsz o ho ts hts r x hx
    rw [formL] at hf
    simp only [Bool.and_eq_true] at hf
    obtain ⟨⟨⟨⟨f1, f2⟩, f3⟩, f4⟩, f5⟩ := hf
    rw [szL] at hsz
    rw [depL] at ho
    rw [toksL] at hts
    simp only [List.map_append, List.map_cons, List.append_assoc, List.cons_append] at hts
    obtain ⟨t, ts1, rfl, e1, hts⟩ := map_cons_inv hts
    obtain ⟨ats, ts2, rfl, e2, hts⟩ := map_app_inv hts
    obtain ⟨mid, ts3, rfl, e3, e4⟩ := map_app_inv hts
    have hall : ∀ a ∈ c.f1, isA a = true := by
      intro a ha
      have := List.all_eq_true.1 f3 a ha
      unfold okA at this
      rw [Bool.and_eq_true] at this
      exact this.1
    have hA := map_isA e2 hall
    have ht1 : t.f0 = 1 := (k3_eq e1).1
    have ht2 : t.f1 = c.f0 := (k3_eq e1).2.1
    have hl1 : ats.length = c.f1.length := by simpa using congrArg List.length e2
    have hl := len_le l
    obtain ⟨cs, g1, g2⟩ := h2 f5 (by omega) o (by omega) ts3 e4 r x hx
    have hcl := g1.length
    by_cases hb : c.f2 = true
    · rw [if_pos hb] at e3 ho
      simp only [List.map_append, List.map_cons, List.append_assoc, List.cons_append] at e3
      obtain ⟨u, m1, rfl, e5, e6⟩ := map_cons_inv e3
      obtain ⟨kt, m2, rfl, e7, e8⟩ := map_app_inv e6
      obtain ⟨b, m3, rfl, e9, e10⟩ := map_cons_inv e8
      have : m3 = [] := by cases m3 with
        | nil => rfl
        | cons _ _ => cases e10
      subst this
      have hu : isS u 123 = true := by rw [k3_isS e5, sg_isS]; rfl
      have hbb : isS b 125 = true := by rw [k3_isS e9, sg_isS]; rfl
      have hb1 : b.f0 ≠ 1 := by rw [isS_f0 hbb]; decide
      obtain ⟨ks, k1, k2⟩ := h1 f4 (by omega) (o + 1) (by omega) kt e7 (b :: (ts3 ++ r)) _ (RL.stop (o + 1) b (ts3 ++ r) hb1 (by simpa [stopT] using hbb))
      have k2' : RL (o + 1) (kt ++ b :: (ts3 ++ r)) (.ok (ks, b :: (ts3 ++ r))) := by simpa [pre] using k2
      refine ⟨⟨t.f1, ats, true, ks, t.f3⟩ :: cs, SmL.cons _ _ _ _ ht2 hb.symm (map_key e2) (by simp) (by dsimp only; omega) (by omega) k1 g1, ?_⟩
      have := RL.blk o t ats u _ ks b (ts3 ++ r) _ (by omega) ht1 hA hu k2' g2
      have e : t :: (ats ++ (u :: (kt ++ [b]) ++ ts3)) ++ r = t :: (ats ++ u :: (kt ++ b :: (ts3 ++ r))) := by simp
      rw [e]
      cases x <;> simpa [pre, push] using this
    · rw [if_neg hb] at e3
      obtain ⟨u, m1, rfl, e5, e6⟩ := map_cons_inv e3
      have : m1 = [] := by cases m1 with
        | nil => rfl
        | cons _ _ => cases e6
      subst this
      have hu : isS u 59 = true := by rw [k3_isS e5, sg_isS]; rfl
      have hk : c.f3 = [] := by
        simpa [hb] using f2
      refine ⟨⟨t.f1, ats, false, [], t.f3⟩ :: cs, SmL.cons _ _ _ _ ht2 (by simpa using hb) (map_key e2) (by simp) (by dsimp only; omega) (by omega) (by rw [hk]; exact SmL.nil) g1, ?_⟩
      have := RL.semi o t ats u _ _ ht1 hA hu g2
      have e : t :: (ats ++ ([u] ++ ts3)) ++ r = t :: (ats ++ u :: (ts3 ++ r)) := by simp
      rw [e]
      cases x <;> simpa [pre, push] using this
/-- What was read within o blocks, within n more: as before, or too deep. -/
theorem RL.deeper {o : Nat} {ts : List S46} {x : Ans} (h : RL o ts x) : ∀ cs r, x = .ok (cs, r) → ∃ p, ts = p ++ r ∧ ∀ (n : Nat) (b : S46) (q : List S46), 1 ≤ n → o + n ≤ 8 → isS b 125 = true →
    (depL cs + o + n ≤ 8 → RL (o + n) (p ++ b :: q) (.ok (cs, b :: q))) ∧ (8 < depL cs + o + n → ∃ a, RL (o + n) (p ++ b :: q) (.error (6, a))) := by
  induction h with
  | stop o t r h1 h2 =>
    intro cs r' hx
    cases hx
    refine ⟨[], rfl, fun n b q hn ho hb => ⟨fun _ => ?_, fun h => ?_⟩⟩
    · exact RL.stop (o + n) b q (by rw [isS_f0 hb]; decide) (by unfold stopT; rw [if_neg (by omega)]; exact hb)
    · simp [depL] at h; omega
  | bad => intro cs r hx; cases hx
  | semi o t ats u r x h1 h2 h3 hr ih =>
    intro cs q hx
    cases x with
    | error e => cases hx
    | ok y =>
      cases hx
      obtain ⟨p, e, g⟩ := ih _ _ rfl
      refine ⟨t :: (ats ++ u :: p), by rw [e]; simp, fun n b q hn ho hb => ?_⟩
      obtain ⟨g1, g2⟩ := g n b q hn ho hb
      have ed : depL (⟨t.f1, ats, false, [], t.f3⟩ :: y.1) = depL y.1 := by rw [depL]; simp
      rw [ed]
      have es : t :: (ats ++ u :: p) ++ b :: q = t :: (ats ++ u :: (p ++ b :: q)) := by simp
      rw [es]
      refine ⟨fun hd => ?_, fun hd => ?_⟩
      · exact RL.semi (o + n) t ats u _ _ h1 h2 h3 (g1 hd)
      · obtain ⟨a, ha⟩ := g2 hd
        exact ⟨a, RL.semi (o + n) t ats u _ _ h1 h2 h3 ha⟩
  | syn => intro cs r hx; cases hx
  | lim => intro cs r hx; cases hx
  | blk o t ats u r ks b' q' x ho' h1 h2 h3 hk hr ihk ih =>
    intro cs q hx
    cases x with
    | error e => cases hx
    | ok y =>
      cases hx
      obtain ⟨p, e, g⟩ := ih _ _ rfl
      obtain ⟨pk, ek, gk⟩ := ihk _ _ rfl
      obtain ⟨b2, q0, pk2, f1, f2, f3, f4, f5⟩ := hk.frame _ _ rfl
      cases f1
      have hb' : isS b' 125 = true := by simpa [stopT] using f3
      refine ⟨t :: (ats ++ u :: (pk ++ b' :: p)), by rw [ek, e]; simp, fun n b q hn ho hb => ?_⟩
      obtain ⟨g1, g2⟩ := g n b q hn ho hb
      have es : t :: (ats ++ u :: (pk ++ b' :: p)) ++ b :: q = t :: (ats ++ u :: (pk ++ b' :: (p ++ b :: q))) := by simp
      rw [es]
      have ed : depL (⟨t.f1, ats, true, ks, t.f3⟩ :: y.1) = max (1 + depL ks) (depL y.1) := by rw [depL]; simp
      rw [ed]
      by_cases h8 : o + n = 8
      · refine ⟨fun hd => by omega, fun _ => ⟨_, by rw [h8]; exact RL.lim t ats u _ h1 h2 h3⟩⟩
      · obtain ⟨k1, k2⟩ := gk n b' (p ++ b :: q) hn (by omega) hb'
        have e1 : o + 1 + n = o + n + 1 := by omega
        rw [e1] at k1 k2
        by_cases hkd : depL ks + (o + 1) + n ≤ 8
        · refine ⟨fun hd => ?_, fun hd => ?_⟩
          · exact RL.blk (o + n) t ats u _ ks b' _ _ (by omega) h1 h2 h3 (k1 hkd) (g1 (by omega))
          · obtain ⟨a, ha⟩ := g2 (by omega)
            exact ⟨a, RL.blk (o + n) t ats u _ ks b' _ _ (by omega) h1 h2 h3 (k1 hkd) ha⟩
        · refine ⟨fun hd => by omega, fun _ => ?_⟩
          obtain ⟨a, ha⟩ := k2 (by omega)
          exact ⟨a, RL.blkF (o + n) t ats u _ _ (by omega) h1 h2 h3 ha⟩
  | blkF => intro cs r hx; cases hx
/-- What stands in front of an entry. -/
theorem RL.before {o : Nat} {ts : List S46} {x : Ans} (h : RL o ts x) : ∀ cs r, x = .ok (cs, r) → ∀ (w : Nat) (c : S41), cs[w]? = some c → ∃ p t q, ts = p ++ t :: q ∧ t.f0 = 1 ∧ t.f3 = c.f4 ∧ ∀ r' x', RL o r' x' → RL o (p ++ r') (pre (cs.take w) x') := by
  induction h with
  | stop => intro cs r hx w c hw; cases hx; simp at hw
  | bad => intro cs r hx; cases hx
  | semi o t ats u r x h1 h2 h3 hr ih =>
    intro cs q hx w c hw
    cases x with
    | error e => cases hx
    | ok y =>
      cases hx
      cases w with
      | zero =>
        simp at hw
        subst hw
        exact ⟨[], t, _, rfl, h1, rfl, fun r' x' hr' => by cases x' <;> simpa [pre] using hr'⟩
      | succ w =>
        obtain ⟨p, t', q', e, g1, g2, g3⟩ := ih _ _ rfl w c (by simpa using hw)
        refine ⟨t :: (ats ++ u :: p), t', q', by rw [e]; simp, g1, g2, fun r' x' hr' => ?_⟩
        have := RL.semi o t ats u _ _ h1 h2 h3 (g3 r' x' hr')
        simp only [List.cons_append, List.append_assoc]
        cases x' <;> simpa [pre, push] using this
  | syn => intro cs r hx; cases hx
  | lim => intro cs r hx; cases hx
  | blk o t ats u r ks b q x ho h1 h2 h3 hk hr ihk ih =>
    intro cs q' hx w c hw
    cases x with
    | error e => cases hx
    | ok y =>
      cases hx
      cases w with
      | zero =>
        simp at hw
        subst hw
        exact ⟨[], t, _, rfl, h1, rfl, fun r' x' hr' => by cases x' <;> simpa [pre] using hr'⟩
      | succ w =>
        obtain ⟨p, t', q2, e, g1, g2, g3⟩ := ih _ _ rfl w c (by simpa using hw)
        obtain ⟨b', q0, pk, f1, f2, f3, f4, f5⟩ := hk.frame _ _ rfl
        cases f1
        refine ⟨t :: (ats ++ u :: (pk ++ b :: p)), t', q2, by rw [f4, e]; simp, g1, g2, fun r' x' hr' => ?_⟩
        have hs := f5 (b :: (p ++ r')) _ (RL.stop (o + 1) b (p ++ r') f2 f3)
        have hs' : RL (o + 1) (pk ++ b :: (p ++ r')) (.ok (ks, b :: (p ++ r'))) := by simpa [pre] using hs
        have := RL.blk o t ats u _ ks b (p ++ r') _ ho h1 h2 h3 hs' (g3 r' x' hr')
        simp only [List.cons_append, List.append_assoc]
        cases x' <;> simpa [pre, push] using this
  | blkF => intro cs r hx; cases hx
theorem awake10_f : Ev (fun k => salchowlaw10_awake.f k) true := Ev.of (fun k => salchowlaw10_awake.mono k) (show salchowlaw10_awake.f 60 = some true by kernel_rfl)
theorem PA.self {s : ByteArray} (hs : s.size ≤ 200000) {y : List S41 × Int × Int} (h : PA s y) (p : Bool) : SmL p y.1 y.1 := by
  cases h with
  | byte => exact SmL.nil
  | tok => exact SmL.nil
  | good us cs h h1 => exact (h1.self p (by have := lexed_len s h; omega) _ _ rfl).1
/-- The offset of a fault is that of a token. -/
theorem RL.place {o : Nat} {ts : List S46} {x : Ans} (h : RL o ts x) : ∀ e, x = .error e → ∃ t ∈ ts, e.2 = t.f3 := by
  induction h with
  | stop => intro e hx; cases hx
  | bad o t r => intro e hx; cases hx; exact ⟨t, by simp, rfl⟩
  | semi o t ats u r x h1 h2 h3 hr ih =>
    intro e hx
    cases x with
    | error e' =>
      cases hx
      obtain ⟨t', h, g⟩ := ih _ rfl
      exact ⟨t', by simp [h], g⟩
    | ok p => cases hx
  | syn o t ats u r => intro e hx; cases hx; exact ⟨u, by simp, rfl⟩
  | lim t ats u r => intro e hx; cases hx; exact ⟨u, by simp, rfl⟩
  | blk o t ats u r ks b q x ho h1 h2 h3 hk hr ihk ih =>
    intro e hx
    cases x with
    | error e' =>
      cases hx
      obtain ⟨t', h, g⟩ := ih _ rfl
      obtain ⟨b', q0, pk, f1, f2, f3, f4, f5⟩ := hk.frame _ _ rfl
      exact ⟨t', by rw [f4]; simp [h], g⟩
    | ok p => cases hx
  | blkF o t ats u r e ho h1 h2 h3 hk ih =>
    intro e' hx
    cases hx
    obtain ⟨t', h, g⟩ := ih _ rfl
    exact ⟨t', by simp [h], g⟩
theorem PA.at_ {s : ByteArray} {y : List S41 × Int × Int} (h : PA s y) (hc : y.2.1 ≠ 0) : 0 ≤ y.2.2 ∧ y.2.2 ≤ (s.size : Int) ∧ y.1 = [] := by
  cases h with
  | byte e h =>
    have := lexL_err _ _ _ h
    rw [lst_length] at this
    exact ⟨by show (0 : Int) ≤ (s.size : Int) - e.2; omega, by show (s.size : Int) - e.2 ≤ s.size; omega, rfl⟩
  | tok us e h h1 =>
    obtain ⟨t, ht, g⟩ := h1.place _ rfl
    obtain ⟨g1, _⟩ := toks_good s h
    have hb : 0 ≤ t.f3 ∧ t.f3 ≤ (s.size : Int) := by
      rcases List.mem_append.1 ht with ht | ht
      · obtain ⟨u, hu, rfl⟩ := List.mem_map.1 ht
        obtain ⟨_, _, c, d, _⟩ := g1 u hu
        show (0 : Int) ≤ (s.size : Int) - u.rem ∧ (s.size : Int) - u.rem ≤ s.size
        omega
      · rw [List.mem_singleton] at ht
        subst ht
        show (0 : Int) ≤ (s.size : Int) - (0 : Nat) ∧ (s.size : Int) - (0 : Nat) ≤ s.size
        omega
    exact ⟨by show 0 ≤ e.2; rw [g]; exact hb.1, by show e.2 ≤ _; rw [g]; exact hb.2, rfl⟩
  | good => exact absurd rfl hc
/-- A source that is spelled as the tokens of possible entries is accepted with these. -/
theorem PA_spelled (s : ByteArray) (l : List S41) (hf : formL l = true) (hd : depL l ≤ 8) (hsz : szL l ≤ 900000) {us : List Tok} (hx : lexL (s.size + 1) (lst s) = .ok (us ++ [endT])) (hk : us.map Tok.key = (toksL l).map k3) :
    ∃ cs, SmL false cs l ∧ PA s (cs, 0, 0) := by
  obtain ⟨cs, h1, h2⟩ := read_toks l hf hsz 0 (by omega) (us.map (Tok.at_ s.size)) (by rw [List.map_map]; exact hk) [endS s.size] _ (RL.stop 0 (endS s.size) [] (show (5 : Int) ≠ 1 by decide) rfl)
  exact ⟨cs, h1, PA.good us cs hx (by simpa [pre] using h2)⟩
theorem PA.keys {s : ByteArray} (hs : s.size ≤ 200000) {cs : List S41} {us : List Tok} (h : lexL (s.size + 1) (lst s) = .ok (us ++ [endT])) (h1 : RL 0 (us.map (Tok.at_ s.size) ++ [endS s.size]) (.ok (cs, [endS s.size]))) : us.map Tok.key = (toksL cs).map k3 := by
  have := h1.keys (fun t ht => (at_valid s (by omega) h t ht).1) _ _ rfl
  rw [List.map_append] at this
  have := List.append_cancel_right this
  rwa [List.map_map] at this
theorem SmL.inv {p : Bool} {a b : List S41} (h : SmL p a b) : depL a = depL b ∧ cntL a = cntL b := by
  induction h with
  | nil => exact ⟨rfl, rfl⟩
  | cons c d a b h0 h2 h1 h4 hl1 hl2 hk hr ihk ihr =>
    refine ⟨?_, ?_⟩
    · rw [depL, depL, h2, ihk.1, ihr.1]
    · rw [cntL, cntL, ihk.2, ihr.2]
end Go.Proofs.YtkifdadhojbohaaDoor.Pu
