/- Joined out of the texts of this proof that bear the names PvK PvA PvB: what each shows stands over it there. -/
import Derived.Test.YtkifdadhojbohaaDoorYc2
import Derived.Test.YtkifdadhojbohaaDoorYb1
import Derived.Test.YtkifdadhojbohaaDoorYa1
set_option linter.unusedVariables false
set_option linter.unusedSimpArgs false
namespace Go.Proofs.YtkifdadhojbohaaDoor.Pu
open Go.RowKit Go.Proofs.YtkifdadhojbohaaDoor Go.Proofs.YtkifdadhojbohaaDoor.Pr Go.Proofs.YtkifdadhojbohaaDoorW.PrintWords Go.Proofs.YtkifdadhojbohaaDoorW.PrintLast
theorem kind1 (n : Nat) : kindOf n = 1 ↔ n = 32 ∨ n = 9 ∨ n = 10 ∨ n = 13 := by
  unfold kindOf
  constructor
  · intro h; (repeat' split at h) <;> omega
  · intro h; rw [if_pos h]
theorem kind2 (n : Nat) : kindOf n = 2 ↔ 97 ≤ n ∧ n ≤ 122 ∨ 65 ≤ n ∧ n ≤ 90 ∨ n = 95 := by
  unfold kindOf
  constructor
  · intro h; (repeat' split at h) <;> omega
  · intro h; rw [if_neg (by omega), if_pos h]
theorem kind3 (n : Nat) : kindOf n = 3 ↔ 48 ≤ n ∧ n ≤ 57 := by
  unfold kindOf
  constructor
  · intro h; (repeat' split at h) <;> omega
  · intro h; rw [if_neg (by omega), if_neg (by omega), if_pos h]
theorem kind4 (n : Nat) : kindOf n = 4 ↔ n = 46 := by
  unfold kindOf
  constructor
  · intro h; (repeat' split at h) <;> omega
  · intro h; subst h; decide
theorem kind5 (n : Nat) : kindOf n = 5 ↔ n = 40 ∨ n = 41 ∨ n = 43 ∨ n = 45 ∨ n = 42 ∨ n = 47 ∨ n = 44 ∨ n = 61 ∨ n = 59 ∨ n = 123 ∨ n = 125 := by
  unfold kindOf
  constructor
  · intro h; (repeat' split at h) <;> omega
  · intro h; rw [if_neg (by omega), if_neg (by omega), if_neg (by omega), if_neg (by omega), if_pos h]
theorem let_num (t : List UInt8) (h : t.any isLet = true) : (numL t).2 = 2 := by
  have hd : (t.take (t.findIdx (· == 46)) ++ t.drop (t.findIdx (· == 46) + 1)).all isDig = false := by
    rw [List.any_eq_true] at h
    obtain ⟨c, hc, hl⟩ := h
    have h2 : kindOf c.toNat = 2 := by
      simp only [isLet, Bool.and_eq_true, beq_iff_eq] at hl; exact hl.1
    have hdc : isDig c = false := by simp [isDig, h2]
    have hin : c ∈ t.take (t.findIdx (· == 46)) ++ t.drop (t.findIdx (· == 46) + 1) := by
      rw [List.mem_iff_getElem] at hc
      obtain ⟨j, hj, rfl⟩ := hc
      rw [List.mem_append]
      by_cases a : j < t.findIdx (· == 46)
      · left
        rw [List.mem_iff_getElem]
        exact ⟨j, by rw [List.length_take]; omega, by rw [List.getElem_take]⟩
      · by_cases b : j = t.findIdx (· == 46)
        · exfalso
          have hx := List.findIdx_getElem (xs := t) (p := (· == 46)) (w := by rw [← b]; exact hj)
          simp only [← b] at hx
          rw [beq_iff_eq] at hx
          rw [hx] at h2
          exact absurd h2 (by decide)
        · right
          rw [List.mem_iff_getElem]
          refine ⟨j - (t.findIdx (· == 46) + 1), by rw [List.length_drop]; omega, ?_⟩
          rw [List.getElem_drop]
          congr 1
          omega
    cases hx : (t.take (t.findIdx (· == 46)) ++ t.drop (t.findIdx (· == 46) + 1)).all isDig with
    | false => rfl
    | true => have := (List.all_eq_true.1 hx) c hin; rw [hdc] at this; cases this
  unfold numL
  dsimp only
  split
  · rfl
  · first | rfl | rw [if_pos hd]
end Go.Proofs.YtkifdadhojbohaaDoor.Pu
namespace Go.Proofs.YtkifdadhojbohaaDoor.Pu
open Go.RowKit Go.Proofs.YtkifdadhojbohaaDoor Go.Proofs.YtkifdadhojbohaaDoor.Pr Go.Proofs.YtkifdadhojbohaaDoorW.PrintWords Go.Proofs.YtkifdadhojbohaaDoorW.PrintLast
theorem dig_nat {d : Nat} (h : d < 10) : (UInt8.ofNat (48 + d)).toNat = 48 + d := by
  rw [UInt8.toNat_ofNat']; omega
theorem val_append (a b : List UInt8) : digitsVal (a ++ b) = b.foldl (fun n c => n * 10 + (c.toNat - 48)) (digitsVal a) := by
  simp [digitsVal, List.foldl_append]
/-- The numeral of u: digits, not empty, no nought ahead, and its value. -/
theorem dec_spec (u : Nat) : (∀ c ∈ Lib.decDigits u, 48 ≤ c.toNat ∧ c.toNat ≤ 57) ∧ digitsVal (Lib.decDigits u) = u ∧ Lib.decDigits u ≠ [] ∧ (10 ≤ u → (Lib.decDigits u).head? ≠ some 48) ∧ (1 ≤ u → (Lib.decDigits u).head? ≠ some 48) := by
  induction u using Nat.strongRecOn with
  | _ u ih =>
    by_cases h : u < 10
    · rw [Lib.decDigits_one h]
      have hd := dig_nat h
      refine ⟨?_, ?_, by simp, by omega, ?_⟩
      · intro c hc
        rw [List.mem_singleton] at hc
        rw [hc, hd]; omega
      · simp only [digitsVal, List.foldl_cons, List.foldl_nil]
        rw [hd]; omega
      · intro h1 he
        simp only [List.head?_cons, Option.some.injEq] at he
        have := congrArg UInt8.toNat he
        rw [hd] at this
        have h2 : (48 : UInt8).toNat = 48 := rfl
        omega
    · obtain ⟨a, b, c, _, e⟩ := ih (u / 10) (by omega)
      have hd : (UInt8.ofNat (48 + u % 10)).toNat = 48 + u % 10 := dig_nat (by omega)
      have hh : (Lib.decDigits u).head? = (Lib.decDigits (u / 10)).head? := by
        rw [Lib.decDigits, dif_neg h]
        cases hx : Lib.decDigits (u / 10) with
        | nil => exact absurd hx c
        | cons y ys => rfl
      refine ⟨?_, ?_, ?_, ?_, ?_⟩
      · intro x hx
        rw [Lib.decDigits, dif_neg h] at hx
        rcases List.mem_append.1 hx with hx | hx
        · exact a x hx
        · rw [List.mem_singleton] at hx
          rw [hx, hd]; omega
      · rw [Lib.decDigits, dif_neg h, val_append, b]
        simp only [List.foldl_cons, List.foldl_nil]
        rw [hd]; omega
      · rw [Lib.decDigits, dif_neg h]; simp
      · intro _; rw [hh]; exact e (by omega)
      · intro _; rw [hh]; exact e (by omega)
/-- Three digits. -/
def three (m : Nat) : List UInt8 := [UInt8.ofNat (48 + m / 100), UInt8.ofNat (48 + m / 10 % 10), UInt8.ofNat (48 + m % 10)]
theorem dec_thousand (m : Nat) (h : m < 1000) (q : Nat) (hq : 1 ≤ q) : Lib.decDigits (q * 1000 + m) = Lib.decDigits q ++ three m := by
  rw [Lib.decDigits, dif_neg (by omega), Lib.decDigits, dif_neg (by omega), Lib.decDigits, dif_neg (by omega)]
  rw [show (q * 1000 + m) / 10 / 10 / 10 = q by omega, show (q * 1000 + m) / 10 / 10 % 10 = m / 100 by omega, show (q * 1000 + m) / 10 % 10 = m / 10 % 10 by omega, show (q * 1000 + m) % 10 = m % 10 by omega]
  simp [three]
/-- Without the noughts at the end. -/
def cutZ (l : List UInt8) : List UInt8 := (l.reverse.dropWhile (· == 48)).reverse
/-- The numeral of n thousandths. -/
def numS (n : Nat) : List UInt8 := Lib.decDigits (n / 1000) ++ (if cutZ (three (n % 1000)) = [] then [] else 46 :: cutZ (three (n % 1000)))
theorem cut_fin : ∀ m : Fin 1000, (cutZ (three m.val)).all isDig = true ∧ (cutZ (three m.val)).length ≤ 3 ∧ digitsVal ((cutZ (three m.val) ++ [48, 48, 48]).take 3) = m.val ∧ ((cutZ (three m.val) ++ [48, 48, 48]).take 3).length = 3 ∧ (cutZ (three m.val) = [] → m.val = 0) := by decide +kernel
theorem dig_of {c : UInt8} (h : 48 ≤ c.toNat ∧ c.toNat ≤ 57) : isDig c = true := by
  unfold isDig
  rw [beq_iff_eq]
  exact (kind3 c.toNat).2 h
theorem val_three (a b : List UInt8) (hb : b.length = 3) : digitsVal (a ++ b) = digitsVal a * 1000 + digitsVal b := by
  match b, hb with
  | [x, y, z], _ =>
    rw [val_append]
    simp only [digitsVal, List.foldl_cons, List.foldl_nil]
    omega
theorem numL_numS (n : Nat) (hn : n ≤ 1000000000) : numL (numS n) = ((n : Int), 0) := by
  obtain ⟨a, b, c, _, e⟩ := dec_spec (n / 1000)
  obtain ⟨f1, f2, f3, f5, f4⟩ := cut_fin ⟨n % 1000, Nat.mod_lt _ (by decide)⟩
  dsimp only at f1 f2 f3 f4 f5
  have hno : ∀ x ∈ Lib.decDigits (n / 1000), ¬ (x == (46 : UInt8)) = true := by
    intro x hx he
    rw [beq_iff_eq] at he
    have := a x hx
    rw [he] at this
    exact absurd this.1 (by decide)
  have hlen : (Lib.decDigits (n / 1000)).length ≤ 10 := by
    rw [Lib.decDigits_length]
    rcases Nat.lt_or_ge (Lib.nDigits (n / 1000)) 11 with h | h
    · omega
    · exfalso
      have hp : ∀ u : Nat, u ≤ 1000000 → Lib.nDigits u ≤ 7 := by
        intro u hu
        by_cases h0 : u < 10
        · rw [Lib.nDigits_small h0]; omega
        · have := Lib.nDigits_unique
          rcases (by omega : (10 ≤ u ∧ u < 100) ∨ (100 ≤ u ∧ u < 1000) ∨ (1000 ≤ u ∧ u < 10000) ∨ (10000 ≤ u ∧ u < 100000) ∨ (100000 ≤ u ∧ u < 1000000) ∨ (1000000 ≤ u ∧ u < 10000000)) with h | h | h | h | h | h
          · rw [this 1 u (by omega) (by omega)]; omega
          · rw [this 2 u (by omega) (by omega)]; omega
          · rw [this 3 u (by omega) (by omega)]; omega
          · rw [this 4 u (by omega) (by omega)]; omega
          · rw [this 5 u (by omega) (by omega)]; omega
          · rw [this 6 u (by omega) (by omega)]; omega
      have := hp (n / 1000) (by omega)
      omega
  have hall : (Lib.decDigits (n / 1000)).all isDig = true := List.all_eq_true.2 (fun x hx => dig_of (a x hx))
  have hhead : ¬ (1 < (Lib.decDigits (n / 1000)).length ∧ (Lib.decDigits (n / 1000)).head? = some 48) := by
    rintro ⟨h1, h2⟩
    by_cases h0 : n / 1000 < 10
    · rw [Lib.decDigits_one h0] at h1; simp at h1
    · exact e (by omega) h2
  have hval : digitsVal (Lib.decDigits (n / 1000) ++ (cutZ (three (n % 1000)) ++ [48, 48, 48]).take 3) = n := by
    rw [val_three _ _ f5, b, f3]; omega
  have key : ∀ t : List UInt8, ∀ i, t.findIdx (· == 46) = i → t.take i = Lib.decDigits (n / 1000) → t.drop (i + 1) = cutZ (three (n % 1000)) → ¬ (i < t.length ∧ (cutZ (three (n % 1000)) = [] ∨ 3 < (cutZ (three (n % 1000))).length)) → numL t = ((n : Int), 0) := by
    intro t i hi ht hp hc
    unfold numL
    simp only [hi, ht, hp]
    rw [if_neg (by rintro (h | h | h); exact c h; exact hhead h; exact hc h), if_neg (by rw [List.all_append, hall, f1]; decide), if_neg (by omega), hval, if_neg (by omega)]
  have hidx : ∀ r : List UInt8, (Lib.decDigits (n / 1000) ++ 46 :: r).findIdx (· == 46) = (Lib.decDigits (n / 1000)).length := by
    intro r
    rw [List.findIdx_append, if_neg]
    · rw [List.findIdx_cons]; simp
    · intro h
      rw [List.findIdx_lt_length] at h
      obtain ⟨x, hx, hy⟩ := h
      exact hno x hx hy
  unfold numS
  by_cases hz : cutZ (three (n % 1000)) = []
  · rw [if_pos hz, List.append_nil]
    refine key _ (Lib.decDigits (n / 1000)).length (List.findIdx_eq_length.2 fun x hx => by simpa using hno x hx) (List.take_length ..) ?_ (by omega)
    rw [hz, List.drop_eq_nil_of_le (by omega)]
  · rw [if_neg hz]
    refine key _ _ (hidx _) List.take_left ?_ ?_
    · rw [← List.drop_drop, List.drop_left]; rfl
    · rintro ⟨_, h | h⟩
      · exact hz h
      · omega
/-- A valid token. -/
def validB (k : Int) (t : List UInt8) (n : Int) : Bool :=
  if k ≠ 2 ∧ n ≠ 0 then false
  else if k = 1 then t.all isRunB && wordL t == 0
  else if k = 2 then t == [] && decide (0 ≤ n) && decide (n ≤ 1000000000)
  else if k = 3 then titleL t == 0
  else if k = 4 then t.length == 1 && t.all fun c => kindOf c.toNat == 5
  else if k = 5 then t == [] else false
/-- The spelling. -/
def spellS (k : Int) (t : List UInt8) (n : Int) : List UInt8 :=
  if k = 3 then 34 :: t ++ [34] else if k = 2 then (if 0 ≤ n ∧ n ≤ 1000000000 then numS n.toNat else []) else if k = 1 ∨ k = 4 then t else []
theorem cutZ_snoc (l : List UInt8) (c : UInt8) : cutZ (l ++ [c]) = if c.toNat = 48 then cutZ l else l ++ [c] := by
  unfold cutZ
  rw [List.reverse_append, List.reverse_cons, List.reverse_nil, List.nil_append, List.singleton_append]
  by_cases h : c.toNat = 48
  · have : c = 48 := by apply UInt8.toNat_inj.1; rw [h]; rfl
    rw [if_pos h, List.dropWhile_cons_of_pos (by rw [this]; rfl)]
  · have : ¬ (c == 48) = true := by
      rw [beq_iff_eq]; intro e; rw [e] at h; exact h rfl
    rw [if_neg h, List.dropWhile_cons_of_neg (p := fun x => x == 48) this]
    simp
theorem str_append (a b : List UInt8) : str a ++ str b = str (a ++ b) := by
  apply lst_inj; rw [lst_append]; rfl
theorem dec_len (u : Nat) (hu : u ≤ 10000000) : (Lib.decDigits u).length ≤ 8 := by
  rw [Lib.decDigits_length]
  by_cases h0 : u < 10
  · rw [Lib.nDigits_small h0]; omega
  · have := Lib.nDigits_unique
    rcases (by omega : (10 ≤ u ∧ u < 100) ∨ (100 ≤ u ∧ u < 1000) ∨ (1000 ≤ u ∧ u < 10000) ∨ (10000 ≤ u ∧ u < 100000) ∨ (100000 ≤ u ∧ u < 1000000) ∨ (1000000 ≤ u ∧ u < 10000000) ∨ (10000000 ≤ u ∧ u < 100000000)) with h | h | h | h | h | h | h
    · rw [this 1 u (by omega) (by omega)]; omega
    · rw [this 2 u (by omega) (by omega)]; omega
    · rw [this 3 u (by omega) (by omega)]; omega
    · rw [this 4 u (by omega) (by omega)]; omega
    · rw [this 5 u (by omega) (by omega)]; omega
    · rw [this 6 u (by omega) (by omega)]; omega
    · rw [this 7 u (by omega) (by omega)]; omega
theorem fmt_f (n : Nat) (hn : n ≤ 2000000000) : strconv_FormatInt.f (n : Int) 10 = some (str (Lib.decDigits n)) := by
  unfold strconv_FormatInt.f
  rw [if_pos (by omega)]
  rfl
theorem tw_all {α : Type} {p : α → Bool} : ∀ {l : List α}, l.all p = true → l.takeWhile p = l ∧ l.dropWhile p = []
  | [], _ => ⟨rfl, rfl⟩
  | a :: l, h => by
    rw [List.all_cons, Bool.and_eq_true] at h
    obtain ⟨h1, h2⟩ := tw_all (l := l) h.2
    exact ⟨by rw [List.takeWhile_cons_of_pos h.1, h1], by rw [List.dropWhile_cons_of_pos h.1, h2]⟩
theorem dw_nil {α : Type} {p : α → Bool} : ∀ {l : List α}, l.dropWhile p = [] → l.all p = true
  | [], _ => rfl
  | a :: l, h => by
    by_cases ha : p a = true
    · rw [List.dropWhile_cons_of_pos ha] at h
      rw [List.all_cons, ha, dw_nil h]; rfl
    · rw [List.dropWhile_cons_of_neg ha] at h; cases h
theorem run_no {c : UInt8} (h : isRunB c = true) : c.toNat ≠ 34 ∧ kindOf c.toNat ≠ 5 ∧ c.toNat ≠ 35 ∧ kindOf c.toNat ≠ 1 := by
  unfold isRunB at h
  simp only [Bool.or_eq_true, beq_iff_eq] at h
  have h2 := kind2 c.toNat; have h3 := kind3 c.toNat; have h4 := kind4 c.toNat
  refine ⟨?_, ?_, ?_, ?_⟩ <;> omega
/-- All of a run at once. -/
theorem tok_run (t : List UInt8) (h : t ≠ []) (ha : t.all isRunB = true) : tokL t = clsL t [] := by
  cases t with
  | nil => exact absurd rfl h
  | cons c l =>
    rw [List.all_cons, Bool.and_eq_true] at ha
    obtain ⟨h1, h2⟩ := tw_all ha.2
    unfold tokL
    dsimp only
    rw [if_pos ha.1, h1, h2]
/-- The condition that the reference's Valid holds against the token that it reads. -/
def readsAs (k : Int) (t : List UInt8) (n : Int) (s : List UInt8) : Prop := (tokL s).code = 0 ∧ (tokL s).rest = [] ∧ (tokL s).kind = k ∧ (tokL s).text = t ∧ (tokL s).n = n
theorem tok_rest_run {c : UInt8} {l : List UInt8} (hc : isRunB c = true) (h : (tokL (c :: l)).rest = []) : (c :: l).all isRunB = true := by
  unfold tokL at h
  dsimp only at h
  rw [if_pos hc] at h
  have : (clsL (c :: l.takeWhile isRunB) (l.dropWhile isRunB)).rest = l.dropWhile isRunB := by unfold clsL; split <;> rfl
  rw [this] at h
  rw [List.all_cons, hc, dw_nil h]; rfl
theorem isRun_of_dig {c : UInt8} (h : isDig c = true) : isRunB c = true := by
  unfold isDig at h; unfold isRunB
  rw [beq_iff_eq] at h
  rw [h]; rfl
theorem numS_run (n : Nat) : (numS n).all isRunB = true ∧ numS n ≠ [] := by
  obtain ⟨a, _, c, _, _⟩ := dec_spec (n / 1000)
  obtain ⟨f1, _⟩ := cut_fin ⟨n % 1000, Nat.mod_lt _ (by decide)⟩
  dsimp only at f1
  have h1 : (Lib.decDigits (n / 1000)).all isRunB = true := List.all_eq_true.2 fun x hx => isRun_of_dig (dig_of (a x hx))
  have h2 : (cutZ (three (n % 1000))).all isRunB = true := List.all_eq_true.2 fun x hx => isRun_of_dig (List.all_eq_true.1 f1 x hx)
  unfold numS
  refine ⟨?_, by intro h; exact c (List.append_eq_nil_iff.1 h).1⟩
  rw [List.all_append, h1, Bool.true_and]
  split
  · rfl
  · rw [List.all_cons, h2]; rfl
theorem numS_len (n : Nat) (hn : n ≤ 1000000000) : (numS n).length ≤ 12 := by
  have h := dec_len (n / 1000) (by omega)
  obtain ⟨_, f2, _⟩ := cut_fin ⟨n % 1000, Nat.mod_lt _ (by decide)⟩
  dsimp only at f2
  unfold numS
  rw [List.length_append]
  split
  · simp; omega
  · rw [List.length_cons]; omega
theorem wordL_zero {t : List UInt8} (h : wordL t = 0) : t ≠ [] ∧ t.length ≤ 32 ∧ t.any isLet = true := by
  unfold wordL at h
  by_cases hd : t.any isDot = true
  · rw [if_pos hd] at h; cases h
  · rw [if_neg hd] at h
    by_cases hl : t.any isLet = true
    · rw [if_pos hl] at h
      by_cases h32 : 32 < t.length
      · rw [if_pos h32] at h; cases h
      · refine ⟨?_, by omega, hl⟩
        intro e; subst e; cases hl
    · rw [if_neg hl] at h; cases h
theorem titleL_zero {t : List UInt8} (h : titleL t = 0) : t ≠ [] ∧ t.length ≤ 40 ∧ t.all inStr = true := by
  unfold titleL at h
  by_cases h1 : t = [] ∨ t.head? = some 32 ∨ t.getLast? = some 32
  · rw [if_pos h1] at h; cases h
  · rw [if_neg h1] at h
    by_cases h2 : t.any badT = true
    · rw [if_pos h2] at h; cases h
    · rw [if_neg h2] at h
      by_cases h3 : 40 < t.length
      · rw [if_pos h3] at h; cases h
      · refine ⟨fun e => h1 (.inl e), by omega, ?_⟩
        rw [List.all_eq_true]
        intro x hx
        have hb : badT x = false := by
          cases hb : badT x with
          | false => rfl
          | true => exact absurd (List.any_eq_true.2 ⟨x, hx, hb⟩) h2
        unfold badT at hb
        simp only [Bool.or_eq_false_iff, decide_eq_false_iff_not, beq_eq_false_iff_ne] at hb
        unfold inStr
        simp only [Bool.and_eq_true, bne_iff_ne]
        omega
theorem tok_quote (t : List UInt8) (h : t.all inStr = true) : tokL (34 :: t ++ [34]) = ⟨3, t, 0, [], titleL t⟩ := by
  have e : tokL (34 :: t ++ [34]) = textL (t ++ [34]) := by
    have hr : isRunB 34 = false := by decide
    have : tokL (34 :: (t ++ [34])) = textL (t ++ [34]) := by
      unfold tokL; dsimp only; rw [if_neg (by simp [hr]), if_pos (by rfl)]
    exact this
  obtain ⟨h1, h2⟩ := tw_all h
  have t1 : (t ++ [34]).takeWhile inStr = t := by
    rw [List.takeWhile_append, if_pos (by rw [h1]), List.takeWhile_cons_of_neg (by decide), List.append_nil]
  have t2 : (t ++ [34]).dropWhile inStr = [34] := by
    rw [List.dropWhile_append, if_pos (by rw [h2]; rfl), List.dropWhile_cons_of_neg (by decide)]
  rw [e]
  unfold textL
  rw [t1, t2]
  rfl
/-- A valid token's spelling is read as that token. -/
theorem reads_of_valid {k n : Int} {t : List UInt8} (h : validB k t n = true) (h5 : k ≠ 5) : readsAs k t n (spellS k t n) ∧ spellS k t n ≠ [] ∧ (spellS k t n).length ≤ 60 := by
  unfold validB at h
  by_cases hn : k ≠ 2 ∧ n ≠ 0
  · rw [if_pos hn] at h; cases h
  · rw [if_neg hn] at h
    by_cases h1 : k = 1
    · subst h1
      obtain rfl : n = 0 := by omega
      rw [if_pos rfl, Bool.and_eq_true, beq_iff_eq] at h
      obtain ⟨g1, g2, g3⟩ := wordL_zero h.2
      have e : spellS 1 t 0 = t := by simp [spellS]
      rw [e]
      refine ⟨?_, g1, by omega⟩
      unfold readsAs
      rw [tok_run t g1 h.1]
      unfold clsL
      rw [if_pos (let_num t g3), h.2]
      exact ⟨rfl, rfl, rfl, rfl, rfl⟩
    · rw [if_neg h1] at h
      by_cases h2 : k = 2
      · subst h2
        rw [if_pos rfl, Bool.and_eq_true, Bool.and_eq_true, decide_eq_true_eq, decide_eq_true_eq, beq_iff_eq] at h
        obtain ⟨⟨rfl, g0⟩, g1⟩ := h
        obtain ⟨m, rfl⟩ : ∃ m : Nat, n = (m : Int) := ⟨n.toNat, by omega⟩
        have e : spellS 2 [] (m : Int) = numS m := by
          unfold spellS
          rw [if_neg (by decide), if_pos rfl, if_pos ⟨g0, g1⟩]; rfl
        obtain ⟨r1, r2⟩ := numS_run m
        have hl := numS_len m (by omega)
        rw [e]
        refine ⟨?_, r2, by omega⟩
        unfold readsAs
        rw [tok_run _ r2 r1]
        unfold clsL
        rw [numL_numS m (by omega), if_neg (show ¬ (0 : Int) = 2 by decide)]
        exact ⟨rfl, rfl, rfl, rfl, rfl⟩
      · rw [if_neg h2] at h
        obtain rfl : n = 0 := by omega
        by_cases h3 : k = 3
        · subst h3
          rw [if_pos rfl, beq_iff_eq] at h
          obtain ⟨g1, g2, g3⟩ := titleL_zero h
          have e : spellS 3 t 0 = 34 :: t ++ [34] := by simp [spellS]
          rw [e]
          refine ⟨?_, by simp, by simp; omega⟩
          unfold readsAs
          rw [tok_quote t g3]
          exact ⟨h, rfl, rfl, rfl, rfl⟩
        · rw [if_neg h3] at h
          by_cases h4 : k = 4
          · subst h4
            rw [if_pos rfl, Bool.and_eq_true, beq_iff_eq] at h
            have e : spellS 4 t 0 = t := by simp [spellS]
            rw [e]
            match t, h with
            | [c], h =>
              have hc : kindOf c.toNat = 5 := by simpa using h.2
              refine ⟨?_, by simp, by simp⟩
              unfold readsAs
              have h34 : c.toNat ≠ 34 := by have := kind5 c.toNat; omega
              have : tokL [c] = ⟨4, [c], 0, [], 0⟩ := by
                unfold tokL; dsimp only
                rw [if_neg (by simp [isRunB, hc]), if_neg h34, if_pos hc]
              rw [this]
              exact ⟨rfl, rfl, rfl, rfl, rfl⟩
          · rw [if_neg h4, if_neg h5] at h; cases h
/-- What reads as a token is a valid one. -/
theorem valid_of_reads {k n : Int} {t : List UInt8} (hs : spellS k t n ≠ []) (h : readsAs k t n (spellS k t n)) (h5 : k ≠ 5) : validB k t n = true := by
  obtain ⟨hc, hr, hk, ht, hn⟩ := h
  unfold spellS at hs hc hr hk ht hn
  by_cases h3 : k = 3
  · subst h3
    rw [if_pos rfl] at hc hr hk ht hn
    have e : tokL (34 :: t ++ [34]) = textL (t ++ [34]) := by
      have hr : isRunB 34 = false := by decide
      have : tokL (34 :: (t ++ [34])) = textL (t ++ [34]) := by
        unfold tokL; dsimp only; rw [if_neg (by simp [hr]), if_pos (by rfl)]
      exact this
    have hall : t.all inStr = true := by
      rw [e] at ht hc
      unfold textL at ht hc
      have key : (t ++ [34]).takeWhile inStr = t := by
        revert ht hc
        split
        · intro hc; cases hc
        · split
          · intro _ ht; exact ht
          · intro hc; cases hc
      rw [List.all_eq_true]
      intro x hx
      rw [← key] at hx
      exact List.all_eq_true.1 List.all_takeWhile x hx
    rw [tok_quote t hall] at hc hn
    unfold validB
    rw [if_neg (by rintro ⟨_, h⟩; exact h hn.symm), if_neg (by decide), if_neg (by decide), if_pos rfl, beq_iff_eq]
    exact hc
  · rw [if_neg h3] at hs hc hr hk ht hn
    by_cases h2 : k = 2
    · subst h2
      rw [if_pos rfl] at hs hc hr hk ht hn
      by_cases hx : 0 ≤ n ∧ n ≤ 1000000000
      · rw [if_pos hx] at hs hc hr hk ht hn
        obtain ⟨m, rfl⟩ : ∃ m : Nat, n = (m : Int) := ⟨n.toNat, by omega⟩
        rw [Int.toNat_natCast] at hc ht
        obtain ⟨r1, r2⟩ := numS_run m
        rw [tok_run _ r2 r1] at ht
        unfold clsL at ht
        rw [numL_numS m (by omega), if_neg (show ¬ (0 : Int) = 2 by decide)] at ht
        unfold validB
        rw [if_neg (by rintro ⟨h, _⟩; exact h rfl), if_neg (by decide), if_pos rfl, ← ht]
        simp [hx.1, hx.2]
      · rw [if_neg hx] at hs; exact absurd rfl hs
    · rw [if_neg h2] at hs hc hr hk ht hn
      by_cases h14 : k = 1 ∨ k = 4
      · rw [if_pos h14] at hs hc hr hk ht hn
        cases t with
        | nil => exact absurd rfl hs
        | cons c l =>
          by_cases hrun : isRunB c = true
          · have hall := tok_rest_run hrun hr
            rw [tok_run _ (by simp) hall] at hc hk hn
            unfold clsL at hc hk hn
            by_cases hnum : (numL (c :: l)).2 = 2
            · rw [if_pos hnum] at hc hk hn
              dsimp only at hc hk hn
              subst hk hn
              unfold validB
              rw [if_neg (by rintro ⟨_, h⟩; exact h rfl), if_pos rfl, hall, hc]; rfl
            · rw [if_neg hnum] at hk
              dsimp only at hk
              omega
          · have hrun' : isRunB c = false := by simpa using hrun
            by_cases h34 : c.toNat = 34
            · exfalso
              have e : tokL (c :: l) = textL l := by
                unfold tokL; dsimp only; rw [if_neg hrun, if_pos h34]
              rw [e] at hk hc
              unfold textL at hk hc
              revert hk hc
              split
              · intro hc; cases hc
              · split
                · intro _ hk; dsimp only at hk; omega
                · intro hc; cases hc
            · by_cases h5' : kindOf c.toNat = 5
              · have e : tokL (c :: l) = ⟨4, [c], 0, l, 0⟩ := by
                  unfold tokL; dsimp only; rw [if_neg hrun, if_neg h34, if_pos h5']
                rw [e] at hr hk hn
                dsimp only at hr hk hn
                subst hr hk hn
                unfold validB
                rw [if_neg (by rintro ⟨_, h⟩; exact h rfl), if_neg (by decide), if_neg (by decide), if_neg (by decide), if_pos rfl]
                simp [h5']
              · exfalso
                have e : tokL (c :: l) = ⟨0, [], 0, [], 2⟩ := by
                  unfold tokL; dsimp only; rw [if_neg hrun, if_neg h34, if_neg h5']
                rw [e] at hc
                cases hc
      · rw [if_neg h14] at hs; exact absurd rfl hs
theorem Ev.const {α : Type} {x : Option α} {r : α} (h : x = some r) : Ev (fun _ => x) r := by subst h; exact Ev.now r
theorem skip_tok (c : UInt8) (l : List UInt8) (h : (tokL (c :: l)).code = 0) : skipL false (c :: l) = c :: l := by
  have hno : c.toNat ≠ 35 ∧ kindOf c.toNat ≠ 1 := by
    by_cases hr : isRunB c = true
    · have := run_no hr; exact ⟨this.2.2.1, this.2.2.2⟩
    · by_cases h34 : c.toNat = 34
      · rw [h34]; exact ⟨by decide, by decide⟩
      · by_cases h5 : kindOf c.toNat = 5
        · have h1 := kind5 c.toNat
          exact ⟨by omega, by omega⟩
        · exfalso
          have e : tokL (c :: l) = ⟨0, [], 0, [], 2⟩ := by
            unfold tokL; dsimp only; rw [if_neg hr, if_neg h34, if_neg h5]
          rw [e] at h; cases h
  unfold skipL
  rw [if_neg hno.1, if_neg hno.2]
/-- A spelling alone in a source. -/
theorem lex_one {k n : Int} {t : List UInt8} (h : validB k t n = true) (h5 : k ≠ 5) (f : Nat) : lexL (f + 2) (spellS k t n) = .ok [⟨k, t, n, (spellS k t n).length⟩, ⟨5, [], 0, 0⟩] := by
  obtain ⟨⟨hc, hr, hk, ht, hn⟩, hne, _⟩ := reads_of_valid h h5
  cases hx : spellS k t n with
  | nil => exact absurd hx hne
  | cons c l =>
    rw [hx] at hc hr hk ht hn
    have hs := skip_tok c l hc
    unfold lexL
    dsimp only
    rw [hs, if_neg (by rw [hc]; simp), if_neg (by simp), hr, hk, ht, hn]
    rfl
end Go.Proofs.YtkifdadhojbohaaDoor.Pu
namespace Go.Proofs.YtkifdadhojbohaaDoor.Pu
open Go.RowKit Go.Proofs.YtkifdadhojbohaaDoor Go.Proofs.YtkifdadhojbohaaDoor.Pr Go.Proofs.YtkifdadhojbohaaDoorW.PrintWords Go.Proofs.YtkifdadhojbohaaDoorW.PrintLast
theorem isWord_f (s : ByteArray) (hs : s.size ≤ 1000000) : Ev (fun k => lexer_isWord.f k s) ((lst s).all isRunB && wordL (lst s) == 0) := by
  have loop : ∀ (d i : Nat) (l : List UInt8), i ≤ s.size → s.size - i = d → (lst s).drop i = l → Ev (fun k => lexer_isWord.l0 k s s.size i) (l.all isRunB && wordL (lst s) == 0) := by
    intro d
    induction d with
    | zero =>
      intro i l hi hd hl
      obtain rfl : i = s.size := by omega
      obtain rfl : l = [] := by rw [← hl]; exact List.drop_eq_nil_of_le (by rw [lst_length]; omega)
      refine Ev.succ ?_
      simp only [lexer_isWord.l0]
      exact Ev.ifn (by omega) (Ev.bind (word_f s hs) (Ev.ret (by simp)))
    | succ d ih =>
      intro i l hi hd hl
      cases l with
      | nil => exact absurd (at_nil hi hl) (by omega)
      | cons c l =>
        obtain ⟨h1, h2, h3⟩ := at_cons hl
        refine Ev.succ ?_
        simp only [lexer_isWord.l0]
        rw [h2, wrap_nat i (by omega)]
        refine Ev.ifp (by omega) (Ev.ifp (by omega) (Ev.ifp (by omega) (Ev.val (isRun_f c) ?_)))
        by_cases hr : isRunB c = true
        · refine Ev.ifp hr ?_
          have := ih (i + 1) l (by omega) (by omega) h3
          rw [List.all_cons, hr, Bool.true_and]
          exact this
        · refine Ev.ifn hr (Ev.ret ?_)
          rw [Bool.not_eq_true] at hr
          rw [List.all_cons, hr]; rfl
  unfold lexer_isWord.f
  exact loop _ 0 (lst s) (by omega) rfl rfl
theorem list1 (s : ByteArray) (h : s.size = 1) : ∃ c, lst s = [c] ∧ bt s 0 = (c.toNat : Int) := by
  obtain ⟨c, hc, hb⟩ := head_bt (s := s) (by omega)
  have hl : (lst s).length = 1 := by rw [lst_length]; exact h
  match hx : lst s, hl with
  | [x], _ =>
    rw [hx] at hc
    simp only [List.head?_cons, Option.some.injEq] at hc
    subst hc
    exact ⟨x, rfl, hb⟩
theorem valid_f (k0 : Int) (s : ByteArray) (hs : s.size ≤ 1000000) (n a : Int) : Ev (fun k => lexer_Valid.f k k0 s n a) (validB k0 (lst s) n) := by
  have j0 : Ev (fun k => lexer_Valid.j0 k false k0 s n a) (validB k0 (lst s) (if k0 = 2 then n else 0)) := by
    refine Ev.succ ?_
    simp only [lexer_Valid.j0]
    refine Ev.ifn (by decide) ?_
    unfold validB
    by_cases h1 : k0 = 1
    · subst h1
      refine Ev.ifp rfl ?_
      by_cases h : s.toList = []
      · refine Ev.ifp h (Ev.ret ?_)
        rw [toList_lst] at h
        rw [h]; rfl
      · refine Ev.ifn h (Ev.bind (isWord_f s hs) (Ev.ret ?_))
        simp
    · refine Ev.ifn h1 ?_
      by_cases h2 : k0 = 2
      · subst h2
        refine Ev.ifp rfl ?_
        by_cases h : s.toList = []
        · refine Ev.ifp h ?_
          rw [toList_lst] at h
          by_cases h3 : 0 ≤ n
          · exact Ev.ifp h3 (Ev.ret (by simp [h, h3]))
          · exact Ev.ifn h3 (Ev.ret (by simp [h, h3]))
        · refine Ev.ifn h (Ev.ret ?_)
          rw [toList_lst] at h
          simp [h]
      · refine Ev.ifn h2 ?_
        by_cases h3 : k0 = 3
        · subst h3
          exact Ev.ifp rfl (Ev.bind (title_f s hs) (Ev.ret (by simp)))
        · refine Ev.ifn h3 ?_
          by_cases h4 : k0 = 4
          · subst h4
            refine Ev.ifp rfl ?_
            by_cases h : (s.size : Int) = 1
            · obtain ⟨c, hc, hb⟩ := list1 s (by omega)
              refine Ev.ifp h (Ev.val kinds_f (Ev.ifp (by omega) (Ev.ifp (by rw [hb]; omega) (Ev.ifp (by rw [hb]; exact byte_lt c) (Ev.ret ?_)))))
              rw [hb, at_byte, hc]
              simp
              by_cases h5 : kindOf c.toNat = 5
              · simp [h5]
              · rw [beq_eq_false_iff_ne.2 h5, beq_eq_false_iff_ne]; omega
            · refine Ev.ifn h (Ev.ret ?_)
              have : ¬ (lst s).length = 1 := by rw [lst_length]; omega
              simp [this]
          · refine Ev.ifn h4 ?_
            by_cases h5 : k0 = 5
            · subst h5
              exact Ev.ifp rfl (Ev.ret (by rw [toList_lst]; simp))
            · exact Ev.ifn h5 (Ev.ret (by simp [h1, h2, h3, h4, h5]))
  unfold lexer_Valid.f
  by_cases h2 : k0 = 2
  · rw [if_pos h2] at j0
    exact Ev.ifp h2 j0
  · rw [if_neg h2] at j0
    refine Ev.ifn h2 ?_
    by_cases hn : n = 0
    · subst hn; exact j0
    · rw [show (n != 0) = true by simpa using hn]
      refine Ev.succ ?_
      simp only [lexer_Valid.j0]
      exact Ev.ifp (by simp) (Ev.ret (by unfold validB; rw [if_pos ⟨h2, hn⟩]))
theorem Spell_num (m : Nat) (hm : m ≤ 1000000000) (f : ByteArray → ByteArray → Option (ByteArray × Int)) (hf : f (str (Lib.decDigits (m / 1000))) (str (cutZ (three (m % 1000)))) = some (str (numS m), 0)) :
    ((strconv_FormatInt.f (wrap64 ((m : Int) + 1000)) 10).bind fun t360 => ((strconv_FormatInt.f (wrap64 (Int.tdiv (m : Int) 1000)) 10).bind fun t361 => (if 0 ≤ (wrap64 ((t360.size : Int) - 3)) then (if (wrap64 ((t360.size : Int) - 3)) ≤ (t360.size : Int) then ((strings_TrimRight.f (t360.extract ((wrap64 ((t360.size : Int) - 3)) : Int).toNat t360.size) (⟨#[48]⟩ : ByteArray)).bind fun t362 => f t361 t362) else (none)) else (none)))) = some (str (numS m), 0) := by
  have e1 : wrap64 (Int.tdiv (m : Int) 1000) = ((m / 1000 : Nat) : Int) := by
    rw [show Int.tdiv (m : Int) 1000 = ((m / 1000 : Nat) : Int) from rfl, wrap64_of (by omega) (by omega)]
  have e2 : wrap64 ((m : Int) + 1000) = (((m / 1000 + 1) * 1000 + m % 1000 : Nat) : Int) := by
    rw [wrap64_of (by omega) (by omega)]; omega
  have hl := dec_len (m / 1000 + 1) (by omega)
  have hl2 := (dec_spec (m / 1000 + 1)).2.2.1
  rw [e1, e2, fmt_f _ (by omega), fmt_f _ (by omega), dec_thousand _ (by omega) _ (by omega)]
  simp only [Option.bind_some]
  have hsz : (str (Lib.decDigits (m / 1000 + 1) ++ three (m % 1000))).size = (Lib.decDigits (m / 1000 + 1)).length + 3 := by
    rw [size_str, List.length_append]; rfl
  rw [hsz, wrap64_of (by omega) (by omega), show (((Lib.decDigits (m / 1000 + 1)).length + 3 : Nat) : Int) - 3 = ((Lib.decDigits (m / 1000 + 1)).length : Int) by omega, if_pos (by omega), if_pos (by omega), Int.toNat_natCast]
  have hx : (str (Lib.decDigits (m / 1000 + 1) ++ three (m % 1000))).extract (Lib.decDigits (m / 1000 + 1)).length ((Lib.decDigits (m / 1000 + 1)).length + 3) = str (three (m % 1000)) := by
    apply lst_inj
    rw [lst_extract, lst_str, lst_str, List.take_of_length_le (by rw [List.length_append]; exact Nat.le_refl _), List.drop_left]
  rw [hx]
  have ht : strings_TrimRight.f (str (three (m % 1000))) (⟨#[48]⟩ : ByteArray) = some (str (cutZ (three (m % 1000)))) := by
    unfold strings_TrimRight.f
    rw [if_pos ⟨rfl, by rw [size_str]; simp [three]⟩]
    rfl
  rw [ht]
  exact hf
theorem Spell_f (k0 : Int) (s : ByteArray) (hs : s.size ≤ 1000000) (n a : Int) : Ev (fun k => lexer_Spell.f k k0 s n a) (if validB k0 (lst s) n = true then (str (spellS k0 (lst s) n), 0) else (⟨#[]⟩, 1)) := by
  unfold lexer_Spell.f
  refine Ev.bind (valid_f k0 s hs n a) ?_
  cases hv : validB k0 (lst s) n with
  | false => exact Ev.ifn (by simp) (Ev.ret (by simp))
  | true =>
    refine Ev.ifp rfl ?_
    rw [if_pos rfl]
    by_cases h3 : k0 = 3
    · subst h3
      refine Ev.ifp rfl (Ev.ifp (by omega) (Ev.ifp ?_ (Ev.ret ?_)))
      · rw [ByteArray.size_append]; show 1 + s.size + 1 ≤ _; omega
      · congr 1
    · refine Ev.ifn h3 ?_
      by_cases h2 : k0 = 2
      · subst h2
        refine Ev.ifp rfl ?_
        have hv2 := hv
        unfold validB at hv2
        rw [if_neg (by rintro ⟨h, _⟩; exact h rfl), if_neg (by decide), if_pos rfl, Bool.and_eq_true, Bool.and_eq_true, decide_eq_true_eq, decide_eq_true_eq, beq_iff_eq] at hv2
        obtain ⟨⟨h0, g0⟩, g1⟩ := hv2
        obtain ⟨m, rfl⟩ : ∃ m : Nat, n = (m : Int) := ⟨n.toNat, by omega⟩
        have e : spellS 2 (lst s) (m : Int) = numS m := by
          unfold spellS
          rw [if_neg (by decide), if_pos rfl, if_pos ⟨g0, g1⟩]; rfl
        rw [e]
        have hl := numS_len m (by omega)
        refine Ev.const (Spell_num m (by omega) _ ?_)
        have hlen : (numS m).length = (Lib.decDigits (m / 1000)).length + (if cutZ (three (m % 1000)) = [] then 0 else (cutZ (three (m % 1000))).length + 1) := by
          unfold numS; rw [List.length_append]; split <;> simp
        by_cases hz : cutZ (three (m % 1000)) = []
        · rw [if_pos (by rw [toList_lst, lst_str]; exact hz)]
          unfold numS; rw [if_pos hz, List.append_nil]
        · rw [if_neg hz] at hlen
          rw [if_neg (by rw [toList_lst, lst_str]; exact hz), show (⟨#[46]⟩ : ByteArray) = str [46] from rfl, str_append, str_append, size_str, size_str, size_str, if_pos (by omega), if_pos (by rw [List.length_append]; simp; omega)]
          unfold numS; rw [if_neg hz]; simp
      · refine Ev.ifn h2 (Ev.ret ?_)
        unfold spellS
        rw [if_neg h3, if_neg h2]
        by_cases h14 : k0 = 1 ∨ k0 = 4
        · rw [if_pos h14, str_lst]
        · rw [if_neg h14]
          have hv2 := hv
          unfold validB at hv2
          by_cases hn : k0 ≠ 2 ∧ n ≠ 0
          · rw [if_pos hn] at hv2; cases hv2
          · rw [if_neg hn, if_neg (fun h => h14 (.inl h)), if_neg h2, if_neg h3, if_neg (fun h => h14 (.inr h))] at hv2
            by_cases h5 : k0 = 5
            · rw [if_pos h5, beq_iff_eq] at hv2
              congr 1
              apply lst_inj; rw [hv2]; rfl
            · rw [if_neg h5] at hv2; cases hv2
end Go.Proofs.YtkifdadhojbohaaDoor.Pu
