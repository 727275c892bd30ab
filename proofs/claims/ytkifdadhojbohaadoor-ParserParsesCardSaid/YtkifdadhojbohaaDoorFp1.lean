/- Joined out of the texts of this proof that bear the names PvK GivB PvA PwE PxA PwF PwG PwH PwIs PwI: what each shows stands over it there. -/
import Derived.Test.YtkifdadhojbohaaDoorFc1
import Derived.Test.YtkifdadhojbohaaDoorFk1
import Derived.Test.YtkifdadhojbohaaDoorFb1
import Derived.Test.YtkifdadhojbohaaDoorFs1
import Derived.Test.YtkifdadhojbohaaDoorFa1
import Derived.Test.YtkifdadhojbohaaDoorFe1
import Derived.Test.YtkifdadhojbohaaDoorFw1
import Derived.Test.YtkifdadhojbohaaDoorFt1
import Derived.Lib.AppendIntMem
import Derived.Stop.LaidErr
import Derived.WalkSmall
set_option linter.unusedVariables false
set_option linter.unusedSimpArgs false
set_option maxHeartbeats 8000000
set_option maxRecDepth 100000
namespace Go.Proofs.YtkifdadhojbohaaDoor.Pu
open Go.RowKit Go.Proofs.YtkifdadhojbohaaDoor Go.Proofs.YtkifdadhojbohaaDoor.Pr Go.Proofs.YtkifdadhojbohaaDoorW.PrintWords Go.Proofs.YtkifdadhojbohaaDoorW.PrintLast
theorem kind1 (n : Nat) : kindOf n = 1 ↔ n = 32 ∨ n = 9 ∨ n = 10 ∨ n = 13 := by
  unfold kindOf
  constructor
  · intro h; (repeat' split at h) <;> omega
  · intro h; rw [if_pos h]
theorem kind2 (n : Nat) : kindOf n = 2 ↔ 97 ≤ n ∧ n ≤ 122 ∨ 65 ≤ n ∧ n ≤ 90 ∨ n = 95 := by
  unfold kindOf
  constructor
  · intro h; (repeat' split at h) <;> omega
  · intro h; rw [if_neg (by omega), if_pos h]
theorem kind3 (n : Nat) : kindOf n = 3 ↔ 48 ≤ n ∧ n ≤ 57 := by
  unfold kindOf
  constructor
  · intro h; (repeat' split at h) <;> omega
  · intro h; rw [if_neg (by omega), if_neg (by omega), if_pos h]
theorem kind4 (n : Nat) : kindOf n = 4 ↔ n = 46 := by
  unfold kindOf
  constructor
  · intro h; (repeat' split at h) <;> omega
  · intro h; subst h; decide
theorem kind5 (n : Nat) : kindOf n = 5 ↔ n = 40 ∨ n = 41 ∨ n = 43 ∨ n = 45 ∨ n = 42 ∨ n = 47 ∨ n = 44 ∨ n = 61 ∨ n = 59 ∨ n = 123 ∨ n = 125 := by
  unfold kindOf
  constructor
  · intro h; (repeat' split at h) <;> omega
  · intro h; rw [if_neg (by omega), if_neg (by omega), if_neg (by omega), if_neg (by omega), if_pos h]
theorem let_num (t : List UInt8) (h : t.any isLet = true) : (numL t).2 = 2 := by
  have hd : (t.take (t.findIdx (· == 46)) ++ t.drop (t.findIdx (· == 46) + 1)).all isDig = false := by
    rw [List.any_eq_true] at h
    obtain ⟨c, hc, hl⟩ := h
    have h2 : kindOf c.toNat = 2 := by
      simp only [isLet, Bool.and_eq_true, beq_iff_eq] at hl; exact hl.1
    have hdc : isDig c = false := by simp [isDig, h2]
    have hin : c ∈ t.take (t.findIdx (· == 46)) ++ t.drop (t.findIdx (· == 46) + 1) := by
      rw [List.mem_iff_getElem] at hc
      obtain ⟨j, hj, rfl⟩ := hc
      rw [List.mem_append]
      by_cases a : j < t.findIdx (· == 46)
      · left
        rw [List.mem_iff_getElem]
        exact ⟨j, by rw [List.length_take]; omega, by rw [List.getElem_take]⟩
      · by_cases b : j = t.findIdx (· == 46)
        · exfalso
          have hx := List.findIdx_getElem (xs := t) (p := (· == 46)) (w := by rw [← b]; exact hj)
          simp only [← b] at hx
          rw [beq_iff_eq] at hx
          rw [hx] at h2
          exact absurd h2 (by decide)
        · right
          rw [List.mem_iff_getElem]
          refine ⟨j - (t.findIdx (· == 46) + 1), by rw [List.length_drop]; omega, ?_⟩
          rw [List.getElem_drop]
          congr 1
          omega
    cases hx : (t.take (t.findIdx (· == 46)) ++ t.drop (t.findIdx (· == 46) + 1)).all isDig with
    | false => rfl
    | true => have := (List.all_eq_true.1 hx) c hin; rw [hdc] at this; cases this
  unfold numL
  dsimp only
  split
  · rfl
  · first | rfl | rw [if_pos hd]
end Go.Proofs.YtkifdadhojbohaaDoor.Pu
namespace Go.Proofs.YtkifdadhojbohaaDoor
open Go.RowKit Go.Proofs.YtkifdadhojbohaaDoorW.PrintWords
set_option linter.unusedVariables false
def strings_TrimRight.f (s cut : ByteArray) : Option ByteArray := if cut.data.toList = [48] ∧ s.size ≤ 9223372036854775807 then some ⟨(Lib.trimRightB s.data.toList 48).toArray⟩ else none
theorem strings_TrimRight.calls (a0 a1 : ByteArray) (r : ByteArray) (w : World) (h : strings_TrimRight.f a0 a1 = some r) :
    Calls Tryd.prog 62 #[.string a0, .string a1] w fun e w' => e = .returned (.string r) ∧ Below w.heap.size w w' := by
  unfold strings_TrimRight.f at h
  split at h
  · rename_i h1
    obtain ⟨h1, h2⟩ := h1
    obtain rfl : a1 = ⟨#[48]⟩ := by
      cases a1 with
      | mk d => cases d; simp at h1; subst h1; rfl
    obtain rfl := Option.some.inj h
    exact (Tryd.strings_TrimRight_one a0 48 (by decide) w h2).mono fun e w' hh => ⟨hh.1, hh.2 ▸ Below.refl _ _⟩
  · cases h
def Gl (w : World) : Prop := Lib.TabIs Tryd.prog w "internal/strconv.uint64pow10" .u64 Lib.pow10Tab ∧ 1 < w.heap.size
theorem Gl.below {w w' : World} (h : Gl w) (hb : Below w.heap.size w w') : Gl w' :=
  ⟨var?_below (g := 1) hb (by kernel_rfl) h.2 h.1, Nat.lt_of_lt_of_le h.2 hb.size⟩
theorem Gl.drawn {w w' : World} (h : Gl w) (hb : Drawn0 w w') : Gl w' := h.below hb.below
def strconv_FormatInt.f (n base : Int) : Option ByteArray := if base = 10 ∧ 0 ≤ n ∧ n ≤ 9223372036854775807 then some ⟨(Lib.decDigits n.toNat).toArray⟩ else none
theorem strconv_FormatInt.calls (a0 a1 : Int) (r : ByteArray) (w : World) (hG : Gl w) (h : strconv_FormatInt.f a0 a1 = some r) :
    Calls Tryd.prog 61 #[.int .i64 a0, .int .i64 a1] w fun e w' => e = .returned (.string r) ∧ Below w.heap.size w w' := by
  unfold strconv_FormatInt.f at h
  split at h
  · rename_i h1
    obtain ⟨rfl, h2, h3⟩ := h1
    obtain rfl := Option.some.inj h
    refine (Tryd.strconv_FormatInt_10 a0 (by omega) h3 w hG.1).mono fun e w' hh => ⟨?_, ?_⟩
    · rw [hh.1]; unfold Lib.itoa; rw [if_neg (by omega)]
    · obtain ⟨k, os, rfl⟩ := hh.2
      exact Lib.below_grow _ w (Nat.le_refl _) k os
  · cases h
def strings_Count.f (s sub : ByteArray) : Option Int := if sub.data.toList = [10] then some ((Lib.countByte s.data.toList 10 : Nat) : Int) else none
theorem strings_Count.calls (a0 a1 : ByteArray) (r : Int) (w : World) (h : strings_Count.f a0 a1 = some r) :
    Calls Tryd.prog 68 #[.string a0, .string a1] w fun e w' => e = .returned (.int .i64 r) ∧ Below w.heap.size w w' := by
  unfold strings_Count.f at h
  split at h
  · rename_i h1
    obtain rfl : a1 = ⟨#[10]⟩ := by
      cases a1 with
      | mk d => cases d; simp at h1; subst h1; rfl
    obtain rfl := Option.some.inj h
    exact (Tryd.strings_Count_one a0 10 w).mono fun e w' hh => ⟨hh.1, hh.2 ▸ Below.refl _ _⟩
  · cases h
def strings_LastIndexByte.f (s : ByteArray) (c : Int) : Option Int := if s.size < 4611686018427387904 then some (Lib.lastIndexByte s c) else none
theorem strings_LastIndexByte.calls (a0 : ByteArray) (a1 : Int) (r : Int) (w : World) (h : strings_LastIndexByte.f a0 a1 = some r) :
    Calls Tryd.prog 69 #[.string a0, .int .u8 a1] w fun e w' => e = .returned (.int .i64 r) ∧ Below w.heap.size w w' := by
  unfold strings_LastIndexByte.f at h
  split at h
  · rename_i h1
    obtain rfl := Option.some.inj h
    exact (Tryd.strings_LastIndexByte a0 a1 h1 w).mono fun e w' hh => ⟨hh.1, hh.2 ▸ Below.refl _ _⟩
  · cases h
end Go.Proofs.YtkifdadhojbohaaDoor
namespace Go.Proofs.YtkifdadhojbohaaDoor.Pu
open Go.RowKit Go.Proofs.YtkifdadhojbohaaDoor Go.Proofs.YtkifdadhojbohaaDoor.Pr Go.Proofs.YtkifdadhojbohaaDoorW.PrintWords Go.Proofs.YtkifdadhojbohaaDoorW.PrintLast
theorem dig_nat {d : Nat} (h : d < 10) : (UInt8.ofNat (48 + d)).toNat = 48 + d := by
  rw [UInt8.toNat_ofNat']; omega
theorem val_append (a b : List UInt8) : digitsVal (a ++ b) = b.foldl (fun n c => n * 10 + (c.toNat - 48)) (digitsVal a) := by
  simp [digitsVal, List.foldl_append]
theorem dec_spec (u : Nat) : (∀ c ∈ Lib.decDigits u, 48 ≤ c.toNat ∧ c.toNat ≤ 57) ∧ digitsVal (Lib.decDigits u) = u ∧ Lib.decDigits u ≠ [] ∧ (10 ≤ u → (Lib.decDigits u).head? ≠ some 48) ∧ (1 ≤ u → (Lib.decDigits u).head? ≠ some 48) := by
  induction u using Nat.strongRecOn with
  | _ u ih =>
    by_cases h : u < 10
    · rw [Lib.decDigits_one h]
      have hd := dig_nat h
      refine ⟨?_, ?_, by simp, by omega, ?_⟩
      · intro c hc
        rw [List.mem_singleton] at hc
        rw [hc, hd]; omega
      · simp only [digitsVal, List.foldl_cons, List.foldl_nil]
        rw [hd]; omega
      · intro h1 he
        simp only [List.head?_cons, Option.some.injEq] at he
        have := congrArg UInt8.toNat he
        rw [hd] at this
        have h2 : (48 : UInt8).toNat = 48 := rfl
        omega
    · obtain ⟨a, b, c, _, e⟩ := ih (u / 10) (by omega)
      have hd : (UInt8.ofNat (48 + u % 10)).toNat = 48 + u % 10 := dig_nat (by omega)
      have hh : (Lib.decDigits u).head? = (Lib.decDigits (u / 10)).head? := by
        rw [Lib.decDigits, dif_neg h]
        cases hx : Lib.decDigits (u / 10) with
        | nil => exact absurd hx c
        | cons y ys => rfl
      refine ⟨?_, ?_, ?_, ?_, ?_⟩
      · intro x hx
        rw [Lib.decDigits, dif_neg h] at hx
        rcases List.mem_append.1 hx with hx | hx
        · exact a x hx
        · rw [List.mem_singleton] at hx
          rw [hx, hd]; omega
      · rw [Lib.decDigits, dif_neg h, val_append, b]
        simp only [List.foldl_cons, List.foldl_nil]
        rw [hd]; omega
      · rw [Lib.decDigits, dif_neg h]; simp
      · intro _; rw [hh]; exact e (by omega)
      · intro _; rw [hh]; exact e (by omega)
def three (m : Nat) : List UInt8 := [UInt8.ofNat (48 + m / 100), UInt8.ofNat (48 + m / 10 % 10), UInt8.ofNat (48 + m % 10)]
def cutZ (l : List UInt8) : List UInt8 := (l.reverse.dropWhile (· == 48)).reverse
def numS (n : Nat) : List UInt8 := Lib.decDigits (n / 1000) ++ (if cutZ (three (n % 1000)) = [] then [] else 46 :: cutZ (three (n % 1000)))
theorem cut_fin : ∀ m : Fin 1000, (cutZ (three m.val)).all isDig = true ∧ (cutZ (three m.val)).length ≤ 3 ∧ digitsVal ((cutZ (three m.val) ++ [48, 48, 48]).take 3) = m.val ∧ ((cutZ (three m.val) ++ [48, 48, 48]).take 3).length = 3 ∧ (cutZ (three m.val) = [] → m.val = 0) := by decide +kernel
theorem dig_of {c : UInt8} (h : 48 ≤ c.toNat ∧ c.toNat ≤ 57) : isDig c = true := by
  unfold isDig
  rw [beq_iff_eq]
  exact (kind3 c.toNat).2 h
theorem val_three (a b : List UInt8) (hb : b.length = 3) : digitsVal (a ++ b) = digitsVal a * 1000 + digitsVal b := by
  match b, hb with
  | [x, y, z], _ =>
    rw [val_append]
    simp only [digitsVal, List.foldl_cons, List.foldl_nil]
    omega
theorem numL_numS (n : Nat) (hn : n ≤ 1000000000) : numL (numS n) = ((n : Int), 0) := by
  obtain ⟨a, b, c, _, e⟩ := dec_spec (n / 1000)
  obtain ⟨f1, f2, f3, f5, f4⟩ := cut_fin ⟨n % 1000, Nat.mod_lt _ (by decide)⟩
  dsimp only at f1 f2 f3 f4 f5
  have hno : ∀ x ∈ Lib.decDigits (n / 1000), ¬ (x == (46 : UInt8)) = true := by
    intro x hx he
    rw [beq_iff_eq] at he
    have := a x hx
    rw [he] at this
    exact absurd this.1 (by decide)
  have hlen : (Lib.decDigits (n / 1000)).length ≤ 10 := by
    rw [Lib.decDigits_length]
    rcases Nat.lt_or_ge (Lib.nDigits (n / 1000)) 11 with h | h
    · omega
    · exfalso
      have hp : ∀ u : Nat, u ≤ 1000000 → Lib.nDigits u ≤ 7 := by
        intro u hu
        by_cases h0 : u < 10
        · rw [Lib.nDigits_small h0]; omega
        · have := Lib.nDigits_unique
          rcases (by omega : (10 ≤ u ∧ u < 100) ∨ (100 ≤ u ∧ u < 1000) ∨ (1000 ≤ u ∧ u < 10000) ∨ (10000 ≤ u ∧ u < 100000) ∨ (100000 ≤ u ∧ u < 1000000) ∨ (1000000 ≤ u ∧ u < 10000000)) with h | h | h | h | h | h
          · rw [this 1 u (by omega) (by omega)]; omega
          · rw [this 2 u (by omega) (by omega)]; omega
          · rw [this 3 u (by omega) (by omega)]; omega
          · rw [this 4 u (by omega) (by omega)]; omega
          · rw [this 5 u (by omega) (by omega)]; omega
          · rw [this 6 u (by omega) (by omega)]; omega
      have := hp (n / 1000) (by omega)
      omega
  have hall : (Lib.decDigits (n / 1000)).all isDig = true := List.all_eq_true.2 (fun x hx => dig_of (a x hx))
  have hhead : ¬ (1 < (Lib.decDigits (n / 1000)).length ∧ (Lib.decDigits (n / 1000)).head? = some 48) := by
    rintro ⟨h1, h2⟩
    by_cases h0 : n / 1000 < 10
    · rw [Lib.decDigits_one h0] at h1; simp at h1
    · exact e (by omega) h2
  have hval : digitsVal (Lib.decDigits (n / 1000) ++ (cutZ (three (n % 1000)) ++ [48, 48, 48]).take 3) = n := by
    rw [val_three _ _ f5, b, f3]; omega
  have key : ∀ t : List UInt8, ∀ i, t.findIdx (· == 46) = i → t.take i = Lib.decDigits (n / 1000) → t.drop (i + 1) = cutZ (three (n % 1000)) → ¬ (i < t.length ∧ (cutZ (three (n % 1000)) = [] ∨ 3 < (cutZ (three (n % 1000))).length)) → numL t = ((n : Int), 0) := by
    intro t i hi ht hp hc
    unfold numL
    simp only [hi, ht, hp]
    rw [if_neg (by rintro (h | h | h); exact c h; exact hhead h; exact hc h), if_neg (by rw [List.all_append, hall, f1]; decide), if_neg (by omega), hval, if_neg (by omega)]
  have hidx : ∀ r : List UInt8, (Lib.decDigits (n / 1000) ++ 46 :: r).findIdx (· == 46) = (Lib.decDigits (n / 1000)).length := by
    intro r
    rw [List.findIdx_append, if_neg]
    · rw [List.findIdx_cons]; simp
    · intro h
      rw [List.findIdx_lt_length] at h
      obtain ⟨x, hx, hy⟩ := h
      exact hno x hx hy
  unfold numS
  by_cases hz : cutZ (three (n % 1000)) = []
  · rw [if_pos hz, List.append_nil]
    refine key _ (Lib.decDigits (n / 1000)).length (List.findIdx_eq_length.2 fun x hx => by simpa using hno x hx) (List.take_length ..) ?_ (by omega)
    rw [hz, List.drop_eq_nil_of_le (by omega)]
  · rw [if_neg hz]
    refine key _ _ (hidx _) List.take_left ?_ ?_
    · rw [← List.drop_drop, List.drop_left]; rfl
    · rintro ⟨_, h | h⟩
      · exact hz h
      · omega
def validB (k : Int) (t : List UInt8) (n : Int) : Bool :=
  if k ≠ 2 ∧ n ≠ 0 then false
  else if k = 1 then t.all isRunB && wordL t == 0
  else if k = 2 then t == [] && decide (0 ≤ n) && decide (n ≤ 1000000000)
  else if k = 3 then titleL t == 0
  else if k = 4 then t.length == 1 && t.all fun c => kindOf c.toNat == 5
  else if k = 5 then t == [] else false
def spellS (k : Int) (t : List UInt8) (n : Int) : List UInt8 :=
  if k = 3 then 34 :: t ++ [34] else if k = 2 then (if 0 ≤ n ∧ n ≤ 1000000000 then numS n.toNat else []) else if k = 1 ∨ k = 4 then t else []
theorem dec_len (u : Nat) (hu : u ≤ 10000000) : (Lib.decDigits u).length ≤ 8 := by
  rw [Lib.decDigits_length]
  by_cases h0 : u < 10
  · rw [Lib.nDigits_small h0]; omega
  · have := Lib.nDigits_unique
    rcases (by omega : (10 ≤ u ∧ u < 100) ∨ (100 ≤ u ∧ u < 1000) ∨ (1000 ≤ u ∧ u < 10000) ∨ (10000 ≤ u ∧ u < 100000) ∨ (100000 ≤ u ∧ u < 1000000) ∨ (1000000 ≤ u ∧ u < 10000000) ∨ (10000000 ≤ u ∧ u < 100000000)) with h | h | h | h | h | h | h
    · rw [this 1 u (by omega) (by omega)]; omega
    · rw [this 2 u (by omega) (by omega)]; omega
    · rw [this 3 u (by omega) (by omega)]; omega
    · rw [this 4 u (by omega) (by omega)]; omega
    · rw [this 5 u (by omega) (by omega)]; omega
    · rw [this 6 u (by omega) (by omega)]; omega
    · rw [this 7 u (by omega) (by omega)]; omega
theorem tw_all {α : Type} {p : α → Bool} : ∀ {l : List α}, l.all p = true → l.takeWhile p = l ∧ l.dropWhile p = []
  | [], _ => ⟨rfl, rfl⟩
  | a :: l, h => by
    rw [List.all_cons, Bool.and_eq_true] at h
    obtain ⟨h1, h2⟩ := tw_all (l := l) h.2
    exact ⟨by rw [List.takeWhile_cons_of_pos h.1, h1], by rw [List.dropWhile_cons_of_pos h.1, h2]⟩
theorem tok_run (t : List UInt8) (h : t ≠ []) (ha : t.all isRunB = true) : tokL t = clsL t [] := by
  cases t with
  | nil => exact absurd rfl h
  | cons c l =>
    rw [List.all_cons, Bool.and_eq_true] at ha
    obtain ⟨h1, h2⟩ := tw_all ha.2
    unfold tokL
    dsimp only
    rw [if_pos ha.1, h1, h2]
def readsAs (k : Int) (t : List UInt8) (n : Int) (s : List UInt8) : Prop := (tokL s).code = 0 ∧ (tokL s).rest = [] ∧ (tokL s).kind = k ∧ (tokL s).text = t ∧ (tokL s).n = n
theorem isRun_of_dig {c : UInt8} (h : isDig c = true) : isRunB c = true := by
  unfold isDig at h; unfold isRunB
  rw [beq_iff_eq] at h
  rw [h]; rfl
theorem numS_run (n : Nat) : (numS n).all isRunB = true ∧ numS n ≠ [] := by
  obtain ⟨a, _, c, _, _⟩ := dec_spec (n / 1000)
  obtain ⟨f1, _⟩ := cut_fin ⟨n % 1000, Nat.mod_lt _ (by decide)⟩
  dsimp only at f1
  have h1 : (Lib.decDigits (n / 1000)).all isRunB = true := List.all_eq_true.2 fun x hx => isRun_of_dig (dig_of (a x hx))
  have h2 : (cutZ (three (n % 1000))).all isRunB = true := List.all_eq_true.2 fun x hx => isRun_of_dig (List.all_eq_true.1 f1 x hx)
  unfold numS
  refine ⟨?_, by intro h; exact c (List.append_eq_nil_iff.1 h).1⟩
  rw [List.all_append, h1, Bool.true_and]
  split
  · rfl
  · rw [List.all_cons, h2]; rfl
theorem numS_len (n : Nat) (hn : n ≤ 1000000000) : (numS n).length ≤ 12 := by
  have h := dec_len (n / 1000) (by omega)
  obtain ⟨_, f2, _⟩ := cut_fin ⟨n % 1000, Nat.mod_lt _ (by decide)⟩
  dsimp only at f2
  unfold numS
  rw [List.length_append]
  split
  · simp; omega
  · rw [List.length_cons]; omega
theorem wordL_zero {t : List UInt8} (h : wordL t = 0) : t ≠ [] ∧ t.length ≤ 32 ∧ t.any isLet = true := by
  unfold wordL at h
  by_cases hd : t.any isDot = true
  · rw [if_pos hd] at h; cases h
  · rw [if_neg hd] at h
    by_cases hl : t.any isLet = true
    · rw [if_pos hl] at h
      by_cases h32 : 32 < t.length
      · rw [if_pos h32] at h; cases h
      · refine ⟨?_, by omega, hl⟩
        intro e; subst e; cases hl
    · rw [if_neg hl] at h; cases h
theorem titleL_zero {t : List UInt8} (h : titleL t = 0) : t ≠ [] ∧ t.length ≤ 40 ∧ t.all inStr = true := by
  unfold titleL at h
  by_cases h1 : t = [] ∨ t.head? = some 32 ∨ t.getLast? = some 32
  · rw [if_pos h1] at h; cases h
  · rw [if_neg h1] at h
    by_cases h2 : t.any badT = true
    · rw [if_pos h2] at h; cases h
    · rw [if_neg h2] at h
      by_cases h3 : 40 < t.length
      · rw [if_pos h3] at h; cases h
      · refine ⟨fun e => h1 (.inl e), by omega, ?_⟩
        rw [List.all_eq_true]
        intro x hx
        have hb : badT x = false := by
          cases hb : badT x with
          | false => rfl
          | true => exact absurd (List.any_eq_true.2 ⟨x, hx, hb⟩) h2
        unfold badT at hb
        simp only [Bool.or_eq_false_iff, decide_eq_false_iff_not, beq_eq_false_iff_ne] at hb
        unfold inStr
        simp only [Bool.and_eq_true, bne_iff_ne]
        omega
theorem tok_quote (t : List UInt8) (h : t.all inStr = true) : tokL (34 :: t ++ [34]) = ⟨3, t, 0, [], titleL t⟩ := by
  have e : tokL (34 :: t ++ [34]) = textL (t ++ [34]) := by
    have hr : isRunB 34 = false := by decide
    have : tokL (34 :: (t ++ [34])) = textL (t ++ [34]) := by
      unfold tokL; dsimp only; rw [if_neg (by simp [hr]), if_pos (by rfl)]
    exact this
  obtain ⟨h1, h2⟩ := tw_all h
  have t1 : (t ++ [34]).takeWhile inStr = t := by
    rw [List.takeWhile_append, if_pos (by rw [h1]), List.takeWhile_cons_of_neg (by decide), List.append_nil]
  have t2 : (t ++ [34]).dropWhile inStr = [34] := by
    rw [List.dropWhile_append, if_pos (by rw [h2]; rfl), List.dropWhile_cons_of_neg (by decide)]
  rw [e]
  unfold textL
  rw [t1, t2]
  rfl
theorem reads_of_valid {k n : Int} {t : List UInt8} (h : validB k t n = true) (h5 : k ≠ 5) : readsAs k t n (spellS k t n) ∧ spellS k t n ≠ [] ∧ (spellS k t n).length ≤ 60 := by
  unfold validB at h
  by_cases hn : k ≠ 2 ∧ n ≠ 0
  · rw [if_pos hn] at h; cases h
  · rw [if_neg hn] at h
    by_cases h1 : k = 1
    · subst h1
      obtain rfl : n = 0 := by omega
      rw [if_pos rfl, Bool.and_eq_true, beq_iff_eq] at h
      obtain ⟨g1, g2, g3⟩ := wordL_zero h.2
      have e : spellS 1 t 0 = t := by simp [spellS]
      rw [e]
      refine ⟨?_, g1, by omega⟩
      unfold readsAs
      rw [tok_run t g1 h.1]
      unfold clsL
      rw [if_pos (let_num t g3), h.2]
      exact ⟨rfl, rfl, rfl, rfl, rfl⟩
    · rw [if_neg h1] at h
      by_cases h2 : k = 2
      · subst h2
        rw [if_pos rfl, Bool.and_eq_true, Bool.and_eq_true, decide_eq_true_eq, decide_eq_true_eq, beq_iff_eq] at h
        obtain ⟨⟨rfl, g0⟩, g1⟩ := h
        obtain ⟨m, rfl⟩ : ∃ m : Nat, n = (m : Int) := ⟨n.toNat, by omega⟩
        have e : spellS 2 [] (m : Int) = numS m := by
          unfold spellS
          rw [if_neg (by decide), if_pos rfl, if_pos ⟨g0, g1⟩]; rfl
        obtain ⟨r1, r2⟩ := numS_run m
        have hl := numS_len m (by omega)
        rw [e]
        refine ⟨?_, r2, by omega⟩
        unfold readsAs
        rw [tok_run _ r2 r1]
        unfold clsL
        rw [numL_numS m (by omega), if_neg (show ¬ (0 : Int) = 2 by decide)]
        exact ⟨rfl, rfl, rfl, rfl, rfl⟩
      · rw [if_neg h2] at h
        obtain rfl : n = 0 := by omega
        by_cases h3 : k = 3
        · subst h3
          rw [if_pos rfl, beq_iff_eq] at h
          obtain ⟨g1, g2, g3⟩ := titleL_zero h
          have e : spellS 3 t 0 = 34 :: t ++ [34] := by simp [spellS]
          rw [e]
          refine ⟨?_, by simp, by simp; omega⟩
          unfold readsAs
          rw [tok_quote t g3]
          exact ⟨h, rfl, rfl, rfl, rfl⟩
        · rw [if_neg h3] at h
          by_cases h4 : k = 4
          · subst h4
            rw [if_pos rfl, Bool.and_eq_true, beq_iff_eq] at h
            have e : spellS 4 t 0 = t := by simp [spellS]
            rw [e]
            match t, h with
            | [c], h =>
              have hc : kindOf c.toNat = 5 := by simpa using h.2
              refine ⟨?_, by simp, by simp⟩
              unfold readsAs
              have h34 : c.toNat ≠ 34 := by have := kind5 c.toNat; omega
              have : tokL [c] = ⟨4, [c], 0, [], 0⟩ := by
                unfold tokL; dsimp only
                rw [if_neg (by simp [isRunB, hc]), if_neg h34, if_pos hc]
              rw [this]
              exact ⟨rfl, rfl, rfl, rfl, rfl⟩
          · rw [if_neg h4, if_neg h5] at h; cases h
end Go.Proofs.YtkifdadhojbohaaDoor.Pu
namespace Go.Proofs.YtkifdadhojbohaaDoor.Pu
open Go.RowKit Go.Proofs.YtkifdadhojbohaaDoor Go.Proofs.YtkifdadhojbohaaDoor.Pr Go.Proofs.YtkifdadhojbohaaDoorW.PrintWords Go.Proofs.YtkifdadhojbohaaDoorW.PrintLast Go.Proofs.YtkifdadhojbohaaDoorW.PrintMore
theorem size_kids (c : S41) (l : List S41) : SizeOf.sizeOf c.f3 < SizeOf.sizeOf (c :: l) := by
  cases c; simp; omega
theorem size_tail (c : S41) (l : List S41) : SizeOf.sizeOf l < SizeOf.sizeOf (c :: l) := by
  simp; omega
def depL : List S41 → Nat
  | [] => 0
  | c :: l => max (if c.f2 = true then 1 + depL c.f3 else 0) (depL l)
termination_by l => SizeOf.sizeOf l
decreasing_by
  · exact size_kids c l
  · exact size_tail c l
def szL : List S41 → Nat
  | [] => 0
  | c :: l => 1 + c.f1.length + szL c.f3 + szL l
termination_by l => SizeOf.sizeOf l
decreasing_by
  · exact size_kids c l
  · exact size_tail c l
def okA (t : S46) : Bool := isA t && validB t.f0 (lst t.f1) t.f2
def formL : List S41 → Bool
  | [] => true
  | c :: l => validB 1 (lst c.f0) 0 && (c.f2 || c.f3.isEmpty) && c.f1.all okA && formL c.f3 && formL l
termination_by l => SizeOf.sizeOf l
decreasing_by
  · exact size_kids c l
  · exact size_tail c l
def sgT (b : UInt8) : S46 := ⟨4, (⟨#[b]⟩ : ByteArray), 0, 0⟩
def toksL : List S41 → List S46
  | [] => []
  | c :: l => ⟨1, c.f0, 0, 0⟩ :: c.f1 ++ (if c.f2 = true then sgT 123 :: toksL c.f3 ++ [sgT 125] else [sgT 59]) ++ toksL l
termination_by l => SizeOf.sizeOf l
decreasing_by
  · exact size_kids c l
  · exact size_tail c l
inductive AllC (P : S41 → Prop) : List S41 → Prop
  | nil : AllC P []
  | cons (c : S41) (l : List S41) : P c → AllC P c.f3 → AllC P l → AllC P (c :: l)
def txt (n : Nat) (c : S41) : Prop := c.f0.size ≤ n ∧ ∀ a ∈ c.f1, a.f1.size ≤ n
def chkL (l : List S41) : Int := if formL l = true then (if 8 < depL l then 6 else 0) else 2
theorem RL.facts {o : Nat} {ts : List S46} {x : Ans} (h : RL o ts x) : o ≤ 8 → ∀ cs r, x = .ok (cs, r) → szL cs + r.length ≤ ts.length ∧ depL cs + o ≤ 8 ∧ (toksL cs).length + r.length = ts.length := by
  induction h with
  | stop o t r => intro ho cs r' hx; cases hx; simp [szL, depL, toksL]; exact ho
  | bad => intro _ cs r hx; cases hx
  | semi o t ats u r x h1 h2 h3 hr ih =>
    intro ho cs q hx
    cases x with
    | error e => cases hx
    | ok y =>
      cases hx
      obtain ⟨g1, g2, g3⟩ := ih ho _ _ rfl
      rw [szL, depL, toksL]
      simp [szL]
      omega
  | syn => intro _ cs r hx; cases hx
  | lim => intro _ cs r hx; cases hx
  | blk o t ats u r ks b q x ho h1 h2 h3 hk hr ihk ih =>
    intro ho' cs q' hx
    cases x with
    | error e => cases hx
    | ok y =>
      cases hx
      obtain ⟨g1, g2, g3⟩ := ihk (by omega) _ _ rfl
      obtain ⟨k1, k2, k3⟩ := ih ho' _ _ rfl
      rw [szL, depL, toksL]
      simp at g1 g3 ⊢
      omega
  | blkF => intro _ cs r hx; cases hx
theorem RL.form {o : Nat} {ts : List S46} {x : Ans} (h : RL o ts x) : (∀ t ∈ ts, validB t.f0 (lst t.f1) t.f2 = true ∧ t.f1.size ≤ 900000) → ∀ cs r, x = .ok (cs, r) → formL cs = true ∧ AllC (txt 900000) cs := by
  have hword : ∀ t : S46, validB t.f0 (lst t.f1) t.f2 = true → t.f0 = 1 → validB 1 (lst t.f1) 0 = true := by
    intro t hv h1
    rw [h1] at hv
    by_cases hn : t.f2 = 0
    · rwa [hn] at hv
    · unfold validB at hv
      rw [if_pos ⟨by decide, hn⟩] at hv
      cases hv
  induction h with
  | stop => intro _ cs r hx; cases hx; exact ⟨by simp [formL], AllC.nil⟩
  | bad => intro _ cs r hx; cases hx
  | semi o t ats u r x h1 h2 h3 hr ih =>
    intro hv cs q hx
    cases x with
    | error e => cases hx
    | ok y =>
      cases hx
      obtain ⟨g1, g2⟩ := ih (fun a ha => hv a (by simp [ha])) _ _ rfl
      refine ⟨?_, AllC.cons _ _ ⟨(hv t (by simp)).2, fun a ha => (hv a (by simp [show a ∈ ats from ha])).2⟩ AllC.nil g2⟩
      rw [formL]
      have ha : ats.all okA = true := List.all_eq_true.2 (fun a ha => by simp [okA, h2 a ha, (hv a (by simp [ha])).1])
      simp [hword t (hv t (by simp)).1 h1, g1, formL]
      simpa using ha
  | syn => intro _ cs r hx; cases hx
  | lim => intro _ cs r hx; cases hx
  | blk o t ats u r ks b q x ho h1 h2 h3 hk hr ihk ih =>
    intro hv cs q' hx
    cases x with
    | error e => cases hx
    | ok y =>
      cases hx
      obtain ⟨g1, g2⟩ := ihk (fun a ha => hv a (by simp [ha])) _ _ rfl
      obtain ⟨b', q0, pk, f1, f2, f3, f4, f5⟩ := hk.frame _ _ rfl
      obtain ⟨k1, k2⟩ := ih (fun a ha => hv a (by rw [f4]; simp [ha])) _ _ rfl
      refine ⟨?_, AllC.cons _ _ ⟨(hv t (by simp)).2, fun a ha => (hv a (by simp [show a ∈ ats from ha])).2⟩ g2 k2⟩
      rw [formL]
      have ha : ats.all okA = true := List.all_eq_true.2 (fun a ha => by simp [okA, h2 a ha, (hv a (by simp [ha])).1])
      simp [hword t (hv t (by simp)).1 h1, g1, k1]
      simpa using ha
  | blkF => intro _ cs r hx; cases hx
theorem lexL_err : ∀ (f : Nat) (l : List UInt8) (e : Int × Nat), lexL f l = .error e → e.2 ≤ l.length := by
  intro f
  induction f with
  | zero => intro l e h; simp [lexL] at h
  | succ f ih =>
    intro l e h
    have hsk := (skipL_suffix l false).length_le
    simp only [lexL] at h
    by_cases hc : (tokL (skipL false l)).code = 0
    · rw [if_neg (by simp [hc])] at h
      by_cases h0 : skipL false l = []
      · rw [if_pos h0] at h; cases h
      · rw [if_neg h0] at h
        obtain ⟨h1, h2⟩ := tok_suffix (skipL false l) hc
        obtain ⟨h3, h4⟩ := h2 h0
        split at h
        · rename_i x hx
          have := ih _ _ hx
          cases h
          omega
        · cases h
    · rw [if_pos hc] at h
      cases h
      exact hsk
theorem lexL_code : ∀ (f : Nat) (l : List UInt8) (e : Int × Nat), lexL f l = .error e → e.1 ≠ 0 := by
  intro f
  induction f with
  | zero => intro l e h; simp [lexL] at h
  | succ f ih =>
    intro l e h
    simp only [lexL] at h
    by_cases hc : (tokL (skipL false l)).code = 0
    · have hc2 : ¬ (tokL (skipL false l)).code ≠ 0 := by simp [hc]
      rw [if_neg hc2] at h
      by_cases h0 : skipL false l = []
      · rw [if_pos h0] at h; cases h
      · rw [if_neg h0] at h
        split at h
        · rename_i x hx
          have := ih _ _ hx
          cases h
          exact this
        · cases h
    · rw [if_pos (show (tokL (skipL false l)).code ≠ 0 from hc)] at h
      cases h
      exact hc
abbrev endT : Tok := ⟨5, [], 0, 0⟩
theorem all_tw {α : Type} (p : α → Bool) (l : List α) : (l.takeWhile p).all p = true := List.all_takeWhile
theorem tok_valid (l : List UInt8) (hc : (tokL l).code = 0) (hne : l ≠ []) : validB (tokL l).kind (tokL l).text (tokL l).n = true ∧ (tokL l).kind ≠ 5 ∧ (spellS (tokL l).kind (tokL l).text (tokL l).n).length + (tokL l).rest.length ≤ l.length + 12 := by
  cases l with
  | nil => exact absurd rfl hne
  | cons c l =>
    by_cases hr : isRunB c = true
    · have e : tokL (c :: l) = clsL (c :: l.takeWhile isRunB) (l.dropWhile isRunB) := by
        unfold tokL; dsimp only; rw [if_pos hr]
      have hlen : (l.takeWhile isRunB).length + (l.dropWhile isRunB).length = l.length := by
        rw [← List.length_append, List.takeWhile_append_dropWhile]
      rw [e] at hc ⊢
      have hall : (c :: l.takeWhile isRunB).all isRunB = true := by rw [List.all_cons, hr, all_tw]; rfl
      unfold clsL at hc ⊢
      by_cases h2 : (numL (c :: l.takeWhile isRunB)).2 = 2
      · rw [if_pos h2] at hc ⊢
        dsimp only at hc ⊢
        refine ⟨?_, by decide, ?_⟩
        · unfold validB
          rw [if_neg (by rintro ⟨_, h⟩; exact h rfl), if_pos rfl, hall, hc]; rfl
        · have : spellS 1 (c :: l.takeWhile isRunB) 0 = c :: l.takeWhile isRunB := by simp [spellS]
          rw [this, List.length_cons, List.length_cons]; omega
      · rw [if_neg h2] at hc ⊢
        dsimp only at hc ⊢
        have hn : 0 ≤ (numL (c :: l.takeWhile isRunB)).1 ∧ (numL (c :: l.takeWhile isRunB)).1 ≤ 1000000000 := by
          revert hc h2
          unfold numL
          dsimp only
          (repeat' split) <;> intro hc h2
          · exact absurd hc (by decide)
          · exact absurd hc (by decide)
          · exact absurd hc (by decide)
          · exact absurd hc (by decide)
          · dsimp only; omega
        refine ⟨?_, by decide, ?_⟩
        · unfold validB
          rw [if_neg (by rintro ⟨h, _⟩; exact h rfl), if_neg (by decide), if_pos rfl]
          simp [hn.1, hn.2]
        · have : spellS 2 [] (numL (c :: l.takeWhile isRunB)).1 = numS (numL (c :: l.takeWhile isRunB)).1.toNat := by
            unfold spellS
            rw [if_neg (by decide), if_pos rfl, if_pos hn]
          have hl := numS_len (numL (c :: l.takeWhile isRunB)).1.toNat (by omega)
          rw [this, List.length_cons]; omega
    · by_cases h34 : c.toNat = 34
      · have e : tokL (c :: l) = textL l := by
          unfold tokL; dsimp only; rw [if_neg hr, if_pos h34]
        rw [e] at hc ⊢
        unfold textL at hc ⊢
        have hlen : (l.takeWhile inStr).length + (l.dropWhile inStr).length = l.length := by
          rw [← List.length_append, List.takeWhile_append_dropWhile]
        cases hd : l.dropWhile inStr with
        | nil => rw [hd] at hc; cases hc
        | cons x r =>
          rw [hd] at hc hlen
          dsimp only at hc ⊢
          by_cases hx : x.toNat = 34
          · rw [if_pos hx] at hc ⊢
            dsimp only at hc ⊢
            refine ⟨?_, by decide, ?_⟩
            · unfold validB
              rw [if_neg (by rintro ⟨_, h⟩; exact h rfl), if_neg (by decide), if_neg (by decide), if_pos rfl, hc]; rfl
            · have : spellS 3 (l.takeWhile inStr) 0 = 34 :: l.takeWhile inStr ++ [34] := by simp [spellS]
              rw [this]
              simp only [List.length_append, List.length_cons, List.length_nil] at hlen ⊢
              omega
          · rw [if_neg hx] at hc; cases hc
      · by_cases h5 : kindOf c.toNat = 5
        · have e : tokL (c :: l) = ⟨4, [c], 0, l, 0⟩ := by
            unfold tokL; dsimp only; rw [if_neg hr, if_neg h34, if_pos h5]
          rw [e]
          dsimp only
          refine ⟨?_, by decide, ?_⟩
          · unfold validB
            rw [if_neg (by rintro ⟨_, h⟩; exact h rfl), if_neg (by decide), if_neg (by decide), if_neg (by decide), if_pos rfl]
            simp [h5]
          · have : spellS 4 [c] 0 = [c] := by simp [spellS]
            rw [this]; simp; omega
        · have e : tokL (c :: l) = ⟨0, [], 0, [], 2⟩ := by
            unfold tokL; dsimp only; rw [if_neg hr, if_neg h34, if_neg h5]
          rw [e] at hc; cases hc
theorem lex_good : ∀ (f : Nat) (l : List UInt8) (ts : List Tok), l.length < f → lexL f l = .ok ts →
    ∃ us : List Tok, ts = us ++ [endT] ∧ (∀ u ∈ us, validB u.kind u.text u.n = true ∧ u.kind ≠ 5 ∧ 0 < u.rem ∧ u.rem ≤ l.length ∧ u.text.length ≤ l.length) ∧ us.Pairwise (fun a b => b.rem < a.rem) ∧ us.length ≤ l.length ∧
      (us.map fun u => (spellS u.kind u.text u.n).length).sum ≤ l.length + 12 * us.length := by
  intro f
  induction f with
  | zero => intro l ts hf; omega
  | succ f ih =>
    intro l ts hf hx
    have hsk := (skipL_suffix l false).length_le
    simp only [lexL] at hx
    by_cases hc : (tokL (skipL false l)).code = 0
    · have hc2 : ¬ (tokL (skipL false l)).code ≠ 0 := by simp [hc]
      rw [if_neg hc2] at hx
      by_cases h0 : skipL false l = []
      · rw [if_pos h0] at hx
        cases hx
        exact ⟨[], rfl, by simp, by simp, by simp, by simp⟩
      · rw [if_neg h0] at hx
        obtain ⟨h1, h2⟩ := tok_suffix (skipL false l) hc
        obtain ⟨h3, h4⟩ := h2 h0
        obtain ⟨v1, v2, v3⟩ := tok_valid (skipL false l) hc h0
        generalize skipL false l = m at hsk h0 hx h1 h3 h4 v1 v2 v3 hc
        cases hy : lexL f (tokL m).rest with
        | error e => rw [hy] at hx; cases hx
        | ok ws =>
          rw [hy] at hx
          cases hx
          obtain ⟨us, rfl, g1, g2, g3, g4⟩ := ih _ _ (by omega) hy
          have htl : (tokL m).text.length ≤ m.length := by
            have := reads_of_valid v1 v2
            cases m with
            | nil => exact absurd rfl h0
            | cons c r =>
              unfold tokL
              dsimp only
              have hle1 : (r.takeWhile isRunB).length ≤ r.length := (List.takeWhile_prefix _).length_le
              have hle2 : (r.takeWhile inStr).length ≤ r.length := (List.takeWhile_prefix _).length_le
              (repeat' split)
              · unfold clsL; split <;> simp <;> omega
              · unfold textL
                split
                · simp
                · split <;> simp <;> omega
              · simp
              · simp
          refine ⟨⟨(tokL m).kind, (tokL m).text, (tokL m).n, m.length⟩ :: us, rfl, ?_, ?_, ?_, ?_⟩
          · intro u hu
            rcases List.mem_cons.1 hu with rfl | hu
            · exact ⟨v1, v2, List.length_pos_iff.2 h0, hsk, by dsimp only; omega⟩
            · obtain ⟨a1, a2, a3, a4, a5⟩ := g1 u hu
              exact ⟨a1, a2, a3, by omega, by omega⟩
          · refine List.pairwise_cons.2 ⟨fun b hb => ?_, g2⟩
            have := (g1 b hb).2.2.2.1
            dsimp only; omega
          · simp only [List.length_cons]; omega
          · simp only [List.map_cons, List.sum_cons, List.length_cons]
            omega
    · rw [if_pos (show (tokL (skipL false l)).code ≠ 0 from hc)] at hx
      cases hx
abbrev endS (n : Nat) : S46 := Tok.at_ n ⟨5, [], 0, 0⟩
inductive PA (s : ByteArray) : List S41 × Int × Int → Prop
  | byte (e : Int × Nat) : lexL (s.size + 1) (lst s) = .error e → PA s ([], e.1, (s.size : Int) - e.2)
  | tok (us : List Tok) (e : Int × Int) : lexL (s.size + 1) (lst s) = .ok (us ++ [endT]) → RL 0 (us.map (Tok.at_ s.size) ++ [endS s.size]) (.error e) → PA s ([], e.1, e.2)
  | good (us : List Tok) (cs : List S41) : lexL (s.size + 1) (lst s) = .ok (us ++ [endT]) → RL 0 (us.map (Tok.at_ s.size) ++ [endS s.size]) (.ok (cs, [endS s.size])) → PA s (cs, 0, 0)
theorem toks_good (s : ByteArray) {us : List Tok} (h : lexL (s.size + 1) (lst s) = .ok (us ++ [endT])) :
    (∀ u ∈ us, validB u.kind u.text u.n = true ∧ u.kind ≠ 5 ∧ 0 < u.rem ∧ u.rem ≤ s.size ∧ u.text.length ≤ s.size) ∧ us.Pairwise (fun a b => b.rem < a.rem) ∧ us.length ≤ s.size := by
  obtain ⟨vs, e, g1, g2, g3, _⟩ := lex_good _ _ _ (by rw [lst_length]; omega) h
  obtain rfl : us = vs := List.append_cancel_right e
  rw [lst_length] at g1 g3
  exact ⟨g1, g2, g3⟩
theorem RL_end {z : S46} (hz : z.f0 = 5) {us : List S46} (hu : ∀ u ∈ us, u.f0 ≠ 5) : ∃ x, RL 0 (us ++ [z]) x ∧ ∀ cs r, x = .ok (cs, r) → r = [z] := by
  obtain ⟨x, h1, h2⟩ := RL.total z hz us.length 0 us (by omega) (by omega) hu
  refine ⟨x, h1, fun cs r hx => ?_⟩
  obtain ⟨q, rfl, _, hq⟩ := h2 cs r hx
  obtain ⟨t, r0, p, e1, _, e3, _⟩ := h1.frame _ _ hx
  cases q with
  | nil => rfl
  | cons a q =>
    simp at e1
    obtain ⟨rfl, _⟩ := e1
    simp [stopT] at e3
    exact absurd e3 (hq a (by simp))
theorem PA.ex (s : ByteArray) : ∃ y, PA s y := by
  cases hx : lexL (s.size + 1) (lst s) with
  | error e => exact ⟨_, PA.byte e hx⟩
  | ok ts =>
    obtain ⟨us, rfl, g1, g2, g3, _⟩ := lex_good _ _ _ (by rw [lst_length]; omega) hx
    obtain ⟨x, h1, h2⟩ := RL_end (z := endS s.size) rfl (us := us.map (Tok.at_ s.size)) (by
      intro u hu
      obtain ⟨v, hv, rfl⟩ := List.mem_map.1 hu
      exact (g1 v hv).2.1)
    cases x with
    | error e => exact ⟨_, PA.tok us e hx h1⟩
    | ok p =>
      obtain ⟨cs, r⟩ := p
      obtain rfl := h2 cs r rfl
      exact ⟨_, PA.good us cs hx h1⟩
theorem PA.code {s : ByteArray} {y : List S41 × Int × Int} (h : PA s y) : y.2.1 = 0 ∨ (y.2.1 ≠ 0 ∧ y.1 = []) := by
  cases h with
  | byte e h => exact .inr ⟨lexL_code _ _ _ h, rfl⟩
  | tok us e h h1 => exact .inr ⟨by have := h1.code _ rfl; show e.1 ≠ 0; omega, rfl⟩
  | good => exact .inl rfl
theorem lexed_len (s : ByteArray) {us : List Tok} (h : lexL (s.size + 1) (lst s) = .ok (us ++ [endT])) : (us.map (Tok.at_ s.size) ++ [endS s.size]).length ≤ s.size + 1 := by
  have := (toks_good s h).2.2
  simp; omega
theorem lexAns_ok (s : ByteArray) {us : List Tok} (h : lexL (s.size + 1) (lst s) = .ok (us ++ [endT])) : lexAns s.size [] (lexL (s.size + 1) (lst s)) = (us.map (Tok.at_ s.size) ++ [endS s.size], 0, 0) := by
  rw [h]
  simp [lexAns]
theorem Parse_f (s : ByteArray) (hs : s.size ≤ 65536) {y : List S41 × Int × Int} (h : PA s y) : Ev (fun k => parser_Parse.f k s) y := by
  unfold parser_Parse.f
  refine Ev.bind (Lex_f s hs) ?_
  cases h with
  | byte e h =>
    rw [h]
    exact Ev.ifn (lexL_code _ _ _ h) (Ev.now _)
  | tok us e h h1 =>
    rw [lexAns_ok s h]
    obtain ⟨y, g1, g2⟩ := entries_f _ (by have := lexed_len s h; omega) h1
    refine Ev.ifp rfl (Ev.bind g1 ?_)
    have hc := h1.code _ rfl
    simp only [goodA] at g2
    refine Ev.ifn ?_ (Ev.ret ?_)
    · rw [g2]; omega
    · rw [g2]
  | good us cs h h1 =>
    rw [lexAns_ok s h]
    obtain ⟨y, g1, g2⟩ := entries_f _ (by have := lexed_len s h; omega) h1
    refine Ev.ifp rfl (Ev.bind g1 ?_)
    simp only [goodA, List.nil_append] at g2
    rw [g2]
    exact Ev.ifp rfl (Ev.now _)
theorem at_valid (s : ByteArray) (hs : s.size ≤ 900000) {us : List Tok} (h : lexL (s.size + 1) (lst s) = .ok (us ++ [endT])) : ∀ t ∈ us.map (Tok.at_ s.size) ++ [endS s.size], validB t.f0 (lst t.f1) t.f2 = true ∧ t.f1.size ≤ 900000 := by
  obtain ⟨g1, _⟩ := toks_good s h
  intro t ht
  rcases List.mem_append.1 ht with ht | ht
  · obtain ⟨u, hu, rfl⟩ := List.mem_map.1 ht
    obtain ⟨a, b, c, d, e⟩ := g1 u hu
    refine ⟨a, ?_⟩
    show (str u.text).size ≤ 900000
    rw [size_str]; omega
  · rw [List.mem_singleton] at ht
    subst ht
    exact ⟨rfl, by show (str []).size ≤ 900000; simp⟩
theorem PA.facts {s : ByteArray} (hs : s.size ≤ 200000) {cs : List S41} {a : Int} (h : PA s (cs, 0, a)) :
    ∃ us, lexL (s.size + 1) (lst s) = .ok (us ++ [endT]) ∧ RL 0 (us.map (Tok.at_ s.size) ++ [endS s.size]) (.ok (cs, [endS s.size])) ∧ szL cs ≤ s.size ∧ depL cs ≤ 8 ∧ (toksL cs).length = us.length ∧ formL cs = true ∧ AllC (txt 900000) cs ∧ chkL cs = 0 ∧ us.length ≤ s.size ∧ a = 0 := by
  generalize hy : (cs, (0 : Int), a) = y at h
  cases h with
  | byte e h => injection hy with _ h2; injection h2 with h2 _; exact absurd h2.symm (lexL_code _ _ _ h)
  | tok us e h h1 => injection hy with _ h2; injection h2 with h2 _; have := h1.code _ rfl; omega
  | good us cs' h h1 =>
    injection hy with e1 e2
    subst e1
    obtain ⟨f1, f2, f3⟩ := h1.facts (by omega) _ _ rfl
    obtain ⟨k1, k2⟩ := h1.form (at_valid s (by omega) h) _ _ rfl
    have hl := lexed_len s h
    simp at f1 f3 hl
    refine ⟨us, h, h1, by omega, by omega, by omega, k1, k2, ?_, by omega, by simpa using (Prod.mk.inj e2).2⟩
    unfold chkL
    rw [if_pos k1, if_neg (by omega)]
def Tok.up (d : Nat) (t : Tok) : Tok := ⟨t.kind, t.text, t.n, t.rem + d⟩
abbrev KTN := Int × List UInt8 × Int
def Tok.key (t : Tok) : KTN := (t.kind, t.text, t.n)
def k3 (t : S46) : KTN := (t.f0, lst t.f1, t.f2)
theorem RL.before {o : Nat} {ts : List S46} {x : Ans} (h : RL o ts x) : ∀ cs r, x = .ok (cs, r) → ∀ (w : Nat) (c : S41), cs[w]? = some c → ∃ p t q, ts = p ++ t :: q ∧ t.f0 = 1 ∧ t.f3 = c.f4 ∧ ∀ r' x', RL o r' x' → RL o (p ++ r') (pre (cs.take w) x') := by
  induction h with
  | stop => intro cs r hx w c hw; cases hx; simp at hw
  | bad => intro cs r hx; cases hx
  | semi o t ats u r x h1 h2 h3 hr ih =>
    intro cs q hx w c hw
    cases x with
    | error e => cases hx
    | ok y =>
      cases hx
      cases w with
      | zero =>
        simp at hw
        subst hw
        exact ⟨[], t, _, rfl, h1, rfl, fun r' x' hr' => by cases x' <;> simpa [pre] using hr'⟩
      | succ w =>
        obtain ⟨p, t', q', e, g1, g2, g3⟩ := ih _ _ rfl w c (by simpa using hw)
        refine ⟨t :: (ats ++ u :: p), t', q', by rw [e]; simp, g1, g2, fun r' x' hr' => ?_⟩
        have := RL.semi o t ats u _ _ h1 h2 h3 (g3 r' x' hr')
        simp only [List.cons_append, List.append_assoc]
        cases x' <;> simpa [pre, push] using this
  | syn => intro cs r hx; cases hx
  | lim => intro cs r hx; cases hx
  | blk o t ats u r ks b q x ho h1 h2 h3 hk hr ihk ih =>
    intro cs q' hx w c hw
    cases x with
    | error e => cases hx
    | ok y =>
      cases hx
      cases w with
      | zero =>
        simp at hw
        subst hw
        exact ⟨[], t, _, rfl, h1, rfl, fun r' x' hr' => by cases x' <;> simpa [pre] using hr'⟩
      | succ w =>
        obtain ⟨p, t', q2, e, g1, g2, g3⟩ := ih _ _ rfl w c (by simpa using hw)
        obtain ⟨b', q0, pk, f1, f2, f3, f4, f5⟩ := hk.frame _ _ rfl
        cases f1
        refine ⟨t :: (ats ++ u :: (pk ++ b :: p)), t', q2, by rw [f4, e]; simp, g1, g2, fun r' x' hr' => ?_⟩
        have hs := f5 (b :: (p ++ r')) _ (RL.stop (o + 1) b (p ++ r') f2 f3)
        have hs' : RL (o + 1) (pk ++ b :: (p ++ r')) (.ok (ks, b :: (p ++ r'))) := by simpa [pre] using hs
        have := RL.blk o t ats u _ ks b (p ++ r') _ ho h1 h2 h3 hs' (g3 r' x' hr')
        simp only [List.cons_append, List.append_assoc]
        cases x' <;> simpa [pre, push] using this
  | blkF => intro cs r hx; cases hx
theorem PA.self {s : ByteArray} (hs : s.size ≤ 200000) {y : List S41 × Int × Int} (h : PA s y) (p : Bool) : SmL p y.1 y.1 := by
  cases h with
  | byte => exact SmL.nil
  | tok => exact SmL.nil
  | good us cs h h1 => exact (h1.self p (by have := lexed_len s h; omega) _ _ rfl).1
theorem RL.place {o : Nat} {ts : List S46} {x : Ans} (h : RL o ts x) : ∀ e, x = .error e → ∃ t ∈ ts, e.2 = t.f3 := by
  induction h with
  | stop => intro e hx; cases hx
  | bad o t r => intro e hx; cases hx; exact ⟨t, by simp, rfl⟩
  | semi o t ats u r x h1 h2 h3 hr ih =>
    intro e hx
    cases x with
    | error e' =>
      cases hx
      obtain ⟨t', h, g⟩ := ih _ rfl
      exact ⟨t', by simp [h], g⟩
    | ok p => cases hx
  | syn o t ats u r => intro e hx; cases hx; exact ⟨u, by simp, rfl⟩
  | lim t ats u r => intro e hx; cases hx; exact ⟨u, by simp, rfl⟩
  | blk o t ats u r ks b q x ho h1 h2 h3 hk hr ihk ih =>
    intro e hx
    cases x with
    | error e' =>
      cases hx
      obtain ⟨t', h, g⟩ := ih _ rfl
      obtain ⟨b', q0, pk, f1, f2, f3, f4, f5⟩ := hk.frame _ _ rfl
      exact ⟨t', by rw [f4]; simp [h], g⟩
    | ok p => cases hx
  | blkF o t ats u r e ho h1 h2 h3 hk ih =>
    intro e' hx
    cases hx
    obtain ⟨t', h, g⟩ := ih _ rfl
    exact ⟨t', by simp [h], g⟩
theorem PA.at_ {s : ByteArray} {y : List S41 × Int × Int} (h : PA s y) (hc : y.2.1 ≠ 0) : 0 ≤ y.2.2 ∧ y.2.2 ≤ (s.size : Int) ∧ y.1 = [] := by
  cases h with
  | byte e h =>
    have := lexL_err _ _ _ h
    rw [lst_length] at this
    exact ⟨by show (0 : Int) ≤ (s.size : Int) - e.2; omega, by show (s.size : Int) - e.2 ≤ s.size; omega, rfl⟩
  | tok us e h h1 =>
    obtain ⟨t, ht, g⟩ := h1.place _ rfl
    obtain ⟨g1, _⟩ := toks_good s h
    have hb : 0 ≤ t.f3 ∧ t.f3 ≤ (s.size : Int) := by
      rcases List.mem_append.1 ht with ht | ht
      · obtain ⟨u, hu, rfl⟩ := List.mem_map.1 ht
        obtain ⟨_, _, c, d, _⟩ := g1 u hu
        show (0 : Int) ≤ (s.size : Int) - u.rem ∧ (s.size : Int) - u.rem ≤ s.size
        omega
      · rw [List.mem_singleton] at ht
        subst ht
        show (0 : Int) ≤ (s.size : Int) - (0 : Nat) ∧ (s.size : Int) - (0 : Nat) ≤ s.size
        omega
    exact ⟨by show 0 ≤ e.2; rw [g]; exact hb.1, by show e.2 ≤ _; rw [g]; exact hb.2, rfl⟩
  | good => exact absurd rfl hc
theorem awake10_f : Ev (fun k => salchowlaw10_awake.f k) true := Ev.of (fun k => salchowlaw10_awake.mono k) (show salchowlaw10_awake.f 60 = some true by kernel_rfl)
end Go.Proofs.YtkifdadhojbohaaDoor.Pu
