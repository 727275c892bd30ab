/- Joined out of the texts of this proof that bear the names PvK GivB PvA PrF31 PrF30 PwE PrG22 PxA PwF PwG PwH PwIs PrF63 PrF36 PrF35 PvB PrF56 PrF26 PwEc PrF72 PrF45 PwKs: what each shows stands over it there. -/
import Derived.Test.YtkifdadhojbohaaGreatDoorZc1
import Derived.Test.YtkifdadhojbohaaGreatDoorZk1
import Derived.Test.YtkifdadhojbohaaGreatDoorZb1
import Derived.Test.YtkifdadhojbohaaGreatDoorZs1
import Derived.Test.YtkifdadhojbohaaGreatDoorZe1
import Derived.Test.YtkifdadhojbohaaGreatDoorZw1
import Derived.Lib.AppendIntMem
import Derived.Stop.LaidErr
import Derived.WalkSmall
set_option linter.unusedVariables false
set_option linter.unusedSimpArgs false
set_option maxHeartbeats 8000000
set_option maxRecDepth 100000
namespace Go.Proofs.YtkifdadhojbohaaGreatDoor.Pu
open Go.RowKit Go.Proofs.YtkifdadhojbohaaGreatDoor Go.Proofs.YtkifdadhojbohaaGreatDoor.Pr Go.Proofs.YtkifdadhojbohaaGreatDoorW.PrintWords Go.Proofs.YtkifdadhojbohaaGreatDoorW.PrintLast
theorem kind2 (n : Nat) : kindOf n = 2 ↔ 97 ≤ n ∧ n ≤ 122 ∨ 65 ≤ n ∧ n ≤ 90 ∨ n = 95 := by
  unfold kindOf
  constructor
  · intro h; (repeat' split at h) <;> omega
  · intro h; rw [if_neg (by omega), if_pos h]
theorem kind3 (n : Nat) : kindOf n = 3 ↔ 48 ≤ n ∧ n ≤ 57 := by
  unfold kindOf
  constructor
  · intro h; (repeat' split at h) <;> omega
  · intro h; rw [if_neg (by omega), if_neg (by omega), if_pos h]
theorem kind4 (n : Nat) : kindOf n = 4 ↔ n = 46 := by
  unfold kindOf
  constructor
  · intro h; (repeat' split at h) <;> omega
  · intro h; subst h; decide
theorem kind5 (n : Nat) : kindOf n = 5 ↔ n = 40 ∨ n = 41 ∨ n = 43 ∨ n = 45 ∨ n = 42 ∨ n = 47 ∨ n = 44 ∨ n = 61 ∨ n = 59 ∨ n = 123 ∨ n = 125 := by
  unfold kindOf
  constructor
  · intro h; (repeat' split at h) <;> omega
  · intro h; rw [if_neg (by omega), if_neg (by omega), if_neg (by omega), if_neg (by omega), if_pos h]
theorem let_num (t : List UInt8) (h : t.any isLet = true) : (numL t).2 = 2 := by
  have hd : (t.take (t.findIdx (· == 46)) ++ t.drop (t.findIdx (· == 46) + 1)).all isDig = false := by
    rw [List.any_eq_true] at h
    obtain ⟨c, hc, hl⟩ := h
    have h2 : kindOf c.toNat = 2 := by
      simp only [isLet, Bool.and_eq_true, beq_iff_eq] at hl; exact hl.1
    have hdc : isDig c = false := by simp [isDig, h2]
    have hin : c ∈ t.take (t.findIdx (· == 46)) ++ t.drop (t.findIdx (· == 46) + 1) := by
      rw [List.mem_iff_getElem] at hc
      obtain ⟨j, hj, rfl⟩ := hc
      rw [List.mem_append]
      by_cases a : j < t.findIdx (· == 46)
      · left
        rw [List.mem_iff_getElem]
        exact ⟨j, by rw [List.length_take]; omega, by rw [List.getElem_take]⟩
      · by_cases b : j = t.findIdx (· == 46)
        · exfalso
          have hx := List.findIdx_getElem (xs := t) (p := (· == 46)) (w := by rw [← b]; exact hj)
          simp only [← b] at hx
          rw [beq_iff_eq] at hx
          rw [hx] at h2
          exact absurd h2 (by decide)
        · right
          rw [List.mem_iff_getElem]
          refine ⟨j - (t.findIdx (· == 46) + 1), by rw [List.length_drop]; omega, ?_⟩
          rw [List.getElem_drop]
          congr 1
          omega
    cases hx : (t.take (t.findIdx (· == 46)) ++ t.drop (t.findIdx (· == 46) + 1)).all isDig with
    | false => rfl
    | true => have := (List.all_eq_true.1 hx) c hin; rw [hdc] at this; cases this
  unfold numL
  dsimp only
  split
  · rfl
  · first | rfl | rw [if_pos hd]
end Go.Proofs.YtkifdadhojbohaaGreatDoor.Pu
namespace Go.Proofs.YtkifdadhojbohaaGreatDoor
open Go.RowKit Go.Proofs.YtkifdadhojbohaaGreatDoorW.PrintWords
set_option linter.unusedVariables false
def strings_TrimRight.f (s cut : ByteArray) : Option ByteArray := if cut.data.toList = [48] ∧ s.size ≤ 9223372036854775807 then some ⟨(Lib.trimRightB s.data.toList 48).toArray⟩ else none
theorem strings_TrimRight.calls (a0 a1 : ByteArray) (r : ByteArray) (w : World) (h : strings_TrimRight.f a0 a1 = some r) :
    Calls Tryz.prog 63 #[.string a0, .string a1] w fun e w' => e = .returned (.string r) ∧ Below w.heap.size w w' := by
  unfold strings_TrimRight.f at h
  split at h
  · rename_i h1
    obtain ⟨h1, h2⟩ := h1
    obtain rfl : a1 = ⟨#[48]⟩ := by
      cases a1 with
      | mk d => cases d; simp at h1; subst h1; rfl
    obtain rfl := Option.some.inj h
    exact (Tryz.strings_TrimRight_one a0 48 (by decide) w h2).mono fun e w' hh => ⟨hh.1, hh.2 ▸ Below.refl _ _⟩
  · cases h
def Gl (w : World) : Prop := Lib.TabIs Tryz.prog w "internal/strconv.uint64pow10" .u64 Lib.pow10Tab ∧ 1 < w.heap.size
theorem Gl.below {w w' : World} (h : Gl w) (hb : Below w.heap.size w w') : Gl w' :=
  ⟨var?_below (g := 1) hb (by kernel_rfl) h.2 h.1, Nat.lt_of_lt_of_le h.2 hb.size⟩
theorem Gl.drawn {w w' : World} (h : Gl w) (hb : Drawn0 w w') : Gl w' := h.below hb.below
def strconv_FormatInt.f (n base : Int) : Option ByteArray := if base = 10 ∧ 0 ≤ n ∧ n ≤ 9223372036854775807 then some ⟨(Lib.decDigits n.toNat).toArray⟩ else none
theorem strconv_FormatInt.calls (a0 a1 : Int) (r : ByteArray) (w : World) (hG : Gl w) (h : strconv_FormatInt.f a0 a1 = some r) :
    Calls Tryz.prog 62 #[.int .i64 a0, .int .i64 a1] w fun e w' => e = .returned (.string r) ∧ Below w.heap.size w w' := by
  unfold strconv_FormatInt.f at h
  split at h
  · rename_i h1
    obtain ⟨rfl, h2, h3⟩ := h1
    obtain rfl := Option.some.inj h
    refine (Tryz.strconv_FormatInt_10 a0 (by omega) h3 w hG.1).mono fun e w' hh => ⟨?_, ?_⟩
    · rw [hh.1]; unfold Lib.itoa; rw [if_neg (by omega)]
    · obtain ⟨k, os, rfl⟩ := hh.2
      exact Lib.below_grow _ w (Nat.le_refl _) k os
  · cases h
end Go.Proofs.YtkifdadhojbohaaGreatDoor
namespace Go.Proofs.YtkifdadhojbohaaGreatDoor.Pu
open Go.RowKit Go.Proofs.YtkifdadhojbohaaGreatDoor Go.Proofs.YtkifdadhojbohaaGreatDoor.Pr Go.Proofs.YtkifdadhojbohaaGreatDoorW.PrintWords Go.Proofs.YtkifdadhojbohaaGreatDoorW.PrintLast
theorem dig_nat {d : Nat} (h : d < 10) : (UInt8.ofNat (48 + d)).toNat = 48 + d := by
  rw [UInt8.toNat_ofNat']; omega
theorem val_append (a b : List UInt8) : digitsVal (a ++ b) = b.foldl (fun n c => n * 10 + (c.toNat - 48)) (digitsVal a) := by
  simp [digitsVal, List.foldl_append]
theorem dec_spec (u : Nat) : (∀ c ∈ Lib.decDigits u, 48 ≤ c.toNat ∧ c.toNat ≤ 57) ∧ digitsVal (Lib.decDigits u) = u ∧ Lib.decDigits u ≠ [] ∧ (10 ≤ u → (Lib.decDigits u).head? ≠ some 48) ∧ (1 ≤ u → (Lib.decDigits u).head? ≠ some 48) := by
  induction u using Nat.strongRecOn with
  | _ u ih =>
    by_cases h : u < 10
    · rw [Lib.decDigits_one h]
      have hd := dig_nat h
      refine ⟨?_, ?_, by simp, by omega, ?_⟩
      · intro c hc
        rw [List.mem_singleton] at hc
        rw [hc, hd]; omega
      · simp only [digitsVal, List.foldl_cons, List.foldl_nil]
        rw [hd]; omega
      · intro h1 he
        simp only [List.head?_cons, Option.some.injEq] at he
        have := congrArg UInt8.toNat he
        rw [hd] at this
        have h2 : (48 : UInt8).toNat = 48 := rfl
        omega
    · obtain ⟨a, b, c, _, e⟩ := ih (u / 10) (by omega)
      have hd : (UInt8.ofNat (48 + u % 10)).toNat = 48 + u % 10 := dig_nat (by omega)
      have hh : (Lib.decDigits u).head? = (Lib.decDigits (u / 10)).head? := by
        rw [Lib.decDigits, dif_neg h]
        cases hx : Lib.decDigits (u / 10) with
        | nil => exact absurd hx c
        | cons y ys => rfl
      refine ⟨?_, ?_, ?_, ?_, ?_⟩
      · intro x hx
        rw [Lib.decDigits, dif_neg h] at hx
        rcases List.mem_append.1 hx with hx | hx
        · exact a x hx
        · rw [List.mem_singleton] at hx
          rw [hx, hd]; omega
      · rw [Lib.decDigits, dif_neg h, val_append, b]
        simp only [List.foldl_cons, List.foldl_nil]
        rw [hd]; omega
      · rw [Lib.decDigits, dif_neg h]; simp
      · intro _; rw [hh]; exact e (by omega)
      · intro _; rw [hh]; exact e (by omega)
def three (m : Nat) : List UInt8 := [UInt8.ofNat (48 + m / 100), UInt8.ofNat (48 + m / 10 % 10), UInt8.ofNat (48 + m % 10)]
theorem dec_thousand (m : Nat) (h : m < 1000) (q : Nat) (hq : 1 ≤ q) : Lib.decDigits (q * 1000 + m) = Lib.decDigits q ++ three m := by
  rw [Lib.decDigits, dif_neg (by omega), Lib.decDigits, dif_neg (by omega), Lib.decDigits, dif_neg (by omega)]
  rw [show (q * 1000 + m) / 10 / 10 / 10 = q by omega, show (q * 1000 + m) / 10 / 10 % 10 = m / 100 by omega, show (q * 1000 + m) / 10 % 10 = m / 10 % 10 by omega, show (q * 1000 + m) % 10 = m % 10 by omega]
  simp [three]
def cutZ (l : List UInt8) : List UInt8 := (l.reverse.dropWhile (· == 48)).reverse
def numS (n : Nat) : List UInt8 := Lib.decDigits (n / 1000) ++ (if cutZ (three (n % 1000)) = [] then [] else 46 :: cutZ (three (n % 1000)))
theorem cut_fin : ∀ m : Fin 1000, (cutZ (three m.val)).all isDig = true ∧ (cutZ (three m.val)).length ≤ 3 ∧ digitsVal ((cutZ (three m.val) ++ [48, 48, 48]).take 3) = m.val ∧ ((cutZ (three m.val) ++ [48, 48, 48]).take 3).length = 3 ∧ (cutZ (three m.val) = [] → m.val = 0) := by decide +kernel
theorem dig_of {c : UInt8} (h : 48 ≤ c.toNat ∧ c.toNat ≤ 57) : isDig c = true := by
  unfold isDig
  rw [beq_iff_eq]
  exact (kind3 c.toNat).2 h
theorem val_three (a b : List UInt8) (hb : b.length = 3) : digitsVal (a ++ b) = digitsVal a * 1000 + digitsVal b := by
  match b, hb with
  | [x, y, z], _ =>
    rw [val_append]
    simp only [digitsVal, List.foldl_cons, List.foldl_nil]
    omega
theorem numL_numS (n : Nat) (hn : n ≤ 1000000000) : numL (numS n) = ((n : Int), 0) := by
  obtain ⟨a, b, c, _, e⟩ := dec_spec (n / 1000)
  obtain ⟨f1, f2, f3, f5, f4⟩ := cut_fin ⟨n % 1000, Nat.mod_lt _ (by decide)⟩
  dsimp only at f1 f2 f3 f4 f5
  have hno : ∀ x ∈ Lib.decDigits (n / 1000), ¬ (x == (46 : UInt8)) = true := by
    intro x hx he
    rw [beq_iff_eq] at he
    have := a x hx
    rw [he] at this
    exact absurd this.1 (by decide)
  have hlen : (Lib.decDigits (n / 1000)).length ≤ 10 := by
    rw [Lib.decDigits_length]
    rcases Nat.lt_or_ge (Lib.nDigits (n / 1000)) 11 with h | h
    · omega
    · exfalso
      have hp : ∀ u : Nat, u ≤ 1000000 → Lib.nDigits u ≤ 7 := by
        intro u hu
        by_cases h0 : u < 10
        · rw [Lib.nDigits_small h0]; omega
        · have := Lib.nDigits_unique
          rcases (by omega : (10 ≤ u ∧ u < 100) ∨ (100 ≤ u ∧ u < 1000) ∨ (1000 ≤ u ∧ u < 10000) ∨ (10000 ≤ u ∧ u < 100000) ∨ (100000 ≤ u ∧ u < 1000000) ∨ (1000000 ≤ u ∧ u < 10000000)) with h | h | h | h | h | h
          · rw [this 1 u (by omega) (by omega)]; omega
          · rw [this 2 u (by omega) (by omega)]; omega
          · rw [this 3 u (by omega) (by omega)]; omega
          · rw [this 4 u (by omega) (by omega)]; omega
          · rw [this 5 u (by omega) (by omega)]; omega
          · rw [this 6 u (by omega) (by omega)]; omega
      have := hp (n / 1000) (by omega)
      omega
  have hall : (Lib.decDigits (n / 1000)).all isDig = true := List.all_eq_true.2 (fun x hx => dig_of (a x hx))
  have hhead : ¬ (1 < (Lib.decDigits (n / 1000)).length ∧ (Lib.decDigits (n / 1000)).head? = some 48) := by
    rintro ⟨h1, h2⟩
    by_cases h0 : n / 1000 < 10
    · rw [Lib.decDigits_one h0] at h1; simp at h1
    · exact e (by omega) h2
  have hval : digitsVal (Lib.decDigits (n / 1000) ++ (cutZ (three (n % 1000)) ++ [48, 48, 48]).take 3) = n := by
    rw [val_three _ _ f5, b, f3]; omega
  have key : ∀ t : List UInt8, ∀ i, t.findIdx (· == 46) = i → t.take i = Lib.decDigits (n / 1000) → t.drop (i + 1) = cutZ (three (n % 1000)) → ¬ (i < t.length ∧ (cutZ (three (n % 1000)) = [] ∨ 3 < (cutZ (three (n % 1000))).length)) → numL t = ((n : Int), 0) := by
    intro t i hi ht hp hc
    unfold numL
    simp only [hi, ht, hp]
    rw [if_neg (by rintro (h | h | h); exact c h; exact hhead h; exact hc h), if_neg (by rw [List.all_append, hall, f1]; decide), if_neg (by omega), hval, if_neg (by omega)]
  have hidx : ∀ r : List UInt8, (Lib.decDigits (n / 1000) ++ 46 :: r).findIdx (· == 46) = (Lib.decDigits (n / 1000)).length := by
    intro r
    rw [List.findIdx_append, if_neg]
    · rw [List.findIdx_cons]; simp
    · intro h
      rw [List.findIdx_lt_length] at h
      obtain ⟨x, hx, hy⟩ := h
      exact hno x hx hy
  unfold numS
  by_cases hz : cutZ (three (n % 1000)) = []
  · rw [if_pos hz, List.append_nil]
    refine key _ (Lib.decDigits (n / 1000)).length (List.findIdx_eq_length.2 fun x hx => by simpa using hno x hx) (List.take_length ..) ?_ (by omega)
    rw [hz, List.drop_eq_nil_of_le (by omega)]
  · rw [if_neg hz]
    refine key _ _ (hidx _) List.take_left ?_ ?_
    · rw [← List.drop_drop, List.drop_left]; rfl
    · rintro ⟨_, h | h⟩
      · exact hz h
      · omega
def validB (k : Int) (t : List UInt8) (n : Int) : Bool :=
  if k ≠ 2 ∧ n ≠ 0 then false
  else if k = 1 then t.all isRunB && wordL t == 0
  else if k = 2 then t == [] && decide (0 ≤ n) && decide (n ≤ 1000000000)
  else if k = 3 then titleL t == 0
  else if k = 4 then t.length == 1 && t.all fun c => kindOf c.toNat == 5
  else if k = 5 then t == [] else false
def spellS (k : Int) (t : List UInt8) (n : Int) : List UInt8 :=
  if k = 3 then 34 :: t ++ [34] else if k = 2 then (if 0 ≤ n ∧ n ≤ 1000000000 then numS n.toNat else []) else if k = 1 ∨ k = 4 then t else []
theorem cutZ_snoc (l : List UInt8) (c : UInt8) : cutZ (l ++ [c]) = if c.toNat = 48 then cutZ l else l ++ [c] := by
  unfold cutZ
  rw [List.reverse_append, List.reverse_cons, List.reverse_nil, List.nil_append, List.singleton_append]
  by_cases h : c.toNat = 48
  · have : c = 48 := by apply UInt8.toNat_inj.1; rw [h]; rfl
    rw [if_pos h, List.dropWhile_cons_of_pos (by rw [this]; rfl)]
  · have : ¬ (c == 48) = true := by
      rw [beq_iff_eq]; intro e; rw [e] at h; exact h rfl
    rw [if_neg h, List.dropWhile_cons_of_neg (p := fun x => x == 48) this]
    simp
theorem str_append (a b : List UInt8) : str a ++ str b = str (a ++ b) := by
  apply lst_inj; rw [lst_append]; rfl
theorem dec_len (u : Nat) (hu : u ≤ 10000000) : (Lib.decDigits u).length ≤ 8 := by
  rw [Lib.decDigits_length]
  by_cases h0 : u < 10
  · rw [Lib.nDigits_small h0]; omega
  · have := Lib.nDigits_unique
    rcases (by omega : (10 ≤ u ∧ u < 100) ∨ (100 ≤ u ∧ u < 1000) ∨ (1000 ≤ u ∧ u < 10000) ∨ (10000 ≤ u ∧ u < 100000) ∨ (100000 ≤ u ∧ u < 1000000) ∨ (1000000 ≤ u ∧ u < 10000000) ∨ (10000000 ≤ u ∧ u < 100000000)) with h | h | h | h | h | h | h
    · rw [this 1 u (by omega) (by omega)]; omega
    · rw [this 2 u (by omega) (by omega)]; omega
    · rw [this 3 u (by omega) (by omega)]; omega
    · rw [this 4 u (by omega) (by omega)]; omega
    · rw [this 5 u (by omega) (by omega)]; omega
    · rw [this 6 u (by omega) (by omega)]; omega
    · rw [this 7 u (by omega) (by omega)]; omega
theorem fmt_f (n : Nat) (hn : n ≤ 2000000000) : strconv_FormatInt.f (n : Int) 10 = some (str (Lib.decDigits n)) := by
  unfold strconv_FormatInt.f
  rw [if_pos (by omega)]
  rfl
theorem tw_all {α : Type} {p : α → Bool} : ∀ {l : List α}, l.all p = true → l.takeWhile p = l ∧ l.dropWhile p = []
  | [], _ => ⟨rfl, rfl⟩
  | a :: l, h => by
    rw [List.all_cons, Bool.and_eq_true] at h
    obtain ⟨h1, h2⟩ := tw_all (l := l) h.2
    exact ⟨by rw [List.takeWhile_cons_of_pos h.1, h1], by rw [List.dropWhile_cons_of_pos h.1, h2]⟩
theorem dw_nil {α : Type} {p : α → Bool} : ∀ {l : List α}, l.dropWhile p = [] → l.all p = true
  | [], _ => rfl
  | a :: l, h => by
    by_cases ha : p a = true
    · rw [List.dropWhile_cons_of_pos ha] at h
      rw [List.all_cons, ha, dw_nil h]; rfl
    · rw [List.dropWhile_cons_of_neg ha] at h; cases h
theorem tok_run (t : List UInt8) (h : t ≠ []) (ha : t.all isRunB = true) : tokL t = clsL t [] := by
  cases t with
  | nil => exact absurd rfl h
  | cons c l =>
    rw [List.all_cons, Bool.and_eq_true] at ha
    obtain ⟨h1, h2⟩ := tw_all ha.2
    unfold tokL
    dsimp only
    rw [if_pos ha.1, h1, h2]
def readsAs (k : Int) (t : List UInt8) (n : Int) (s : List UInt8) : Prop := (tokL s).code = 0 ∧ (tokL s).rest = [] ∧ (tokL s).kind = k ∧ (tokL s).text = t ∧ (tokL s).n = n
theorem tok_rest_run {c : UInt8} {l : List UInt8} (hc : isRunB c = true) (h : (tokL (c :: l)).rest = []) : (c :: l).all isRunB = true := by
  unfold tokL at h
  dsimp only at h
  rw [if_pos hc] at h
  have : (clsL (c :: l.takeWhile isRunB) (l.dropWhile isRunB)).rest = l.dropWhile isRunB := by unfold clsL; split <;> rfl
  rw [this] at h
  rw [List.all_cons, hc, dw_nil h]; rfl
theorem isRun_of_dig {c : UInt8} (h : isDig c = true) : isRunB c = true := by
  unfold isDig at h; unfold isRunB
  rw [beq_iff_eq] at h
  rw [h]; rfl
theorem numS_run (n : Nat) : (numS n).all isRunB = true ∧ numS n ≠ [] := by
  obtain ⟨a, _, c, _, _⟩ := dec_spec (n / 1000)
  obtain ⟨f1, _⟩ := cut_fin ⟨n % 1000, Nat.mod_lt _ (by decide)⟩
  dsimp only at f1
  have h1 : (Lib.decDigits (n / 1000)).all isRunB = true := List.all_eq_true.2 fun x hx => isRun_of_dig (dig_of (a x hx))
  have h2 : (cutZ (three (n % 1000))).all isRunB = true := List.all_eq_true.2 fun x hx => isRun_of_dig (List.all_eq_true.1 f1 x hx)
  unfold numS
  refine ⟨?_, by intro h; exact c (List.append_eq_nil_iff.1 h).1⟩
  rw [List.all_append, h1, Bool.true_and]
  split
  · rfl
  · rw [List.all_cons, h2]; rfl
theorem numS_len (n : Nat) (hn : n ≤ 1000000000) : (numS n).length ≤ 12 := by
  have h := dec_len (n / 1000) (by omega)
  obtain ⟨_, f2, _⟩ := cut_fin ⟨n % 1000, Nat.mod_lt _ (by decide)⟩
  dsimp only at f2
  unfold numS
  rw [List.length_append]
  split
  · simp; omega
  · rw [List.length_cons]; omega
theorem wordL_zero {t : List UInt8} (h : wordL t = 0) : t ≠ [] ∧ t.length ≤ 32 ∧ t.any isLet = true := by
  unfold wordL at h
  by_cases hd : t.any isDot = true
  · rw [if_pos hd] at h; cases h
  · rw [if_neg hd] at h
    by_cases hl : t.any isLet = true
    · rw [if_pos hl] at h
      by_cases h32 : 32 < t.length
      · rw [if_pos h32] at h; cases h
      · refine ⟨?_, by omega, hl⟩
        intro e; subst e; cases hl
    · rw [if_neg hl] at h; cases h
theorem titleL_zero {t : List UInt8} (h : titleL t = 0) : t ≠ [] ∧ t.length ≤ 40 ∧ t.all inStr = true := by
  unfold titleL at h
  by_cases h1 : t = [] ∨ t.head? = some 32 ∨ t.getLast? = some 32
  · rw [if_pos h1] at h; cases h
  · rw [if_neg h1] at h
    by_cases h2 : t.any badT = true
    · rw [if_pos h2] at h; cases h
    · rw [if_neg h2] at h
      by_cases h3 : 40 < t.length
      · rw [if_pos h3] at h; cases h
      · refine ⟨fun e => h1 (.inl e), by omega, ?_⟩
        rw [List.all_eq_true]
        intro x hx
        have hb : badT x = false := by
          cases hb : badT x with
          | false => rfl
          | true => exact absurd (List.any_eq_true.2 ⟨x, hx, hb⟩) h2
        unfold badT at hb
        simp only [Bool.or_eq_false_iff, decide_eq_false_iff_not, beq_eq_false_iff_ne] at hb
        unfold inStr
        simp only [Bool.and_eq_true, bne_iff_ne]
        omega
theorem tok_quote (t : List UInt8) (h : t.all inStr = true) : tokL (34 :: t ++ [34]) = ⟨3, t, 0, [], titleL t⟩ := by
  have e : tokL (34 :: t ++ [34]) = textL (t ++ [34]) := by
    have hr : isRunB 34 = false := by decide
    have : tokL (34 :: (t ++ [34])) = textL (t ++ [34]) := by
      unfold tokL; dsimp only; rw [if_neg (by simp [hr]), if_pos (by rfl)]
    exact this
  obtain ⟨h1, h2⟩ := tw_all h
  have t1 : (t ++ [34]).takeWhile inStr = t := by
    rw [List.takeWhile_append, if_pos (by rw [h1]), List.takeWhile_cons_of_neg (by decide), List.append_nil]
  have t2 : (t ++ [34]).dropWhile inStr = [34] := by
    rw [List.dropWhile_append, if_pos (by rw [h2]; rfl), List.dropWhile_cons_of_neg (by decide)]
  rw [e]
  unfold textL
  rw [t1, t2]
  rfl
theorem reads_of_valid {k n : Int} {t : List UInt8} (h : validB k t n = true) (h5 : k ≠ 5) : readsAs k t n (spellS k t n) ∧ spellS k t n ≠ [] ∧ (spellS k t n).length ≤ 60 := by
  unfold validB at h
  by_cases hn : k ≠ 2 ∧ n ≠ 0
  · rw [if_pos hn] at h; cases h
  · rw [if_neg hn] at h
    by_cases h1 : k = 1
    · subst h1
      obtain rfl : n = 0 := by omega
      rw [if_pos rfl, Bool.and_eq_true, beq_iff_eq] at h
      obtain ⟨g1, g2, g3⟩ := wordL_zero h.2
      have e : spellS 1 t 0 = t := by simp [spellS]
      rw [e]
      refine ⟨?_, g1, by omega⟩
      unfold readsAs
      rw [tok_run t g1 h.1]
      unfold clsL
      rw [if_pos (let_num t g3), h.2]
      exact ⟨rfl, rfl, rfl, rfl, rfl⟩
    · rw [if_neg h1] at h
      by_cases h2 : k = 2
      · subst h2
        rw [if_pos rfl, Bool.and_eq_true, Bool.and_eq_true, decide_eq_true_eq, decide_eq_true_eq, beq_iff_eq] at h
        obtain ⟨⟨rfl, g0⟩, g1⟩ := h
        obtain ⟨m, rfl⟩ : ∃ m : Nat, n = (m : Int) := ⟨n.toNat, by omega⟩
        have e : spellS 2 [] (m : Int) = numS m := by
          unfold spellS
          rw [if_neg (by decide), if_pos rfl, if_pos ⟨g0, g1⟩]; rfl
        obtain ⟨r1, r2⟩ := numS_run m
        have hl := numS_len m (by omega)
        rw [e]
        refine ⟨?_, r2, by omega⟩
        unfold readsAs
        rw [tok_run _ r2 r1]
        unfold clsL
        rw [numL_numS m (by omega), if_neg (show ¬ (0 : Int) = 2 by decide)]
        exact ⟨rfl, rfl, rfl, rfl, rfl⟩
      · rw [if_neg h2] at h
        obtain rfl : n = 0 := by omega
        by_cases h3 : k = 3
        · subst h3
          rw [if_pos rfl, beq_iff_eq] at h
          obtain ⟨g1, g2, g3⟩ := titleL_zero h
          have e : spellS 3 t 0 = 34 :: t ++ [34] := by simp [spellS]
          rw [e]
          refine ⟨?_, by simp, by simp; omega⟩
          unfold readsAs
          rw [tok_quote t g3]
          exact ⟨h, rfl, rfl, rfl, rfl⟩
        · rw [if_neg h3] at h
          by_cases h4 : k = 4
          · subst h4
            rw [if_pos rfl, Bool.and_eq_true, beq_iff_eq] at h
            have e : spellS 4 t 0 = t := by simp [spellS]
            rw [e]
            match t, h with
            | [c], h =>
              have hc : kindOf c.toNat = 5 := by simpa using h.2
              refine ⟨?_, by simp, by simp⟩
              unfold readsAs
              have h34 : c.toNat ≠ 34 := by have := kind5 c.toNat; omega
              have : tokL [c] = ⟨4, [c], 0, [], 0⟩ := by
                unfold tokL; dsimp only
                rw [if_neg (by simp [isRunB, hc]), if_neg h34, if_pos hc]
              rw [this]
              exact ⟨rfl, rfl, rfl, rfl, rfl⟩
          · rw [if_neg h4, if_neg h5] at h; cases h
theorem valid_of_reads {k n : Int} {t : List UInt8} (hs : spellS k t n ≠ []) (h : readsAs k t n (spellS k t n)) (h5 : k ≠ 5) : validB k t n = true := by
  obtain ⟨hc, hr, hk, ht, hn⟩ := h
  unfold spellS at hs hc hr hk ht hn
  by_cases h3 : k = 3
  · subst h3
    rw [if_pos rfl] at hc hr hk ht hn
    have e : tokL (34 :: t ++ [34]) = textL (t ++ [34]) := by
      have hr : isRunB 34 = false := by decide
      have : tokL (34 :: (t ++ [34])) = textL (t ++ [34]) := by
        unfold tokL; dsimp only; rw [if_neg (by simp [hr]), if_pos (by rfl)]
      exact this
    have hall : t.all inStr = true := by
      rw [e] at ht hc
      unfold textL at ht hc
      have key : (t ++ [34]).takeWhile inStr = t := by
        revert ht hc
        split
        · intro hc; cases hc
        · split
          · intro _ ht; exact ht
          · intro hc; cases hc
      rw [List.all_eq_true]
      intro x hx
      rw [← key] at hx
      exact List.all_eq_true.1 List.all_takeWhile x hx
    rw [tok_quote t hall] at hc hn
    unfold validB
    rw [if_neg (by rintro ⟨_, h⟩; exact h hn.symm), if_neg (by decide), if_neg (by decide), if_pos rfl, beq_iff_eq]
    exact hc
  · rw [if_neg h3] at hs hc hr hk ht hn
    by_cases h2 : k = 2
    · subst h2
      rw [if_pos rfl] at hs hc hr hk ht hn
      by_cases hx : 0 ≤ n ∧ n ≤ 1000000000
      · rw [if_pos hx] at hs hc hr hk ht hn
        obtain ⟨m, rfl⟩ : ∃ m : Nat, n = (m : Int) := ⟨n.toNat, by omega⟩
        rw [Int.toNat_natCast] at hc ht
        obtain ⟨r1, r2⟩ := numS_run m
        rw [tok_run _ r2 r1] at ht
        unfold clsL at ht
        rw [numL_numS m (by omega), if_neg (show ¬ (0 : Int) = 2 by decide)] at ht
        unfold validB
        rw [if_neg (by rintro ⟨h, _⟩; exact h rfl), if_neg (by decide), if_pos rfl, ← ht]
        simp [hx.1, hx.2]
      · rw [if_neg hx] at hs; exact absurd rfl hs
    · rw [if_neg h2] at hs hc hr hk ht hn
      by_cases h14 : k = 1 ∨ k = 4
      · rw [if_pos h14] at hs hc hr hk ht hn
        cases t with
        | nil => exact absurd rfl hs
        | cons c l =>
          by_cases hrun : isRunB c = true
          · have hall := tok_rest_run hrun hr
            rw [tok_run _ (by simp) hall] at hc hk hn
            unfold clsL at hc hk hn
            by_cases hnum : (numL (c :: l)).2 = 2
            · rw [if_pos hnum] at hc hk hn
              dsimp only at hc hk hn
              subst hk hn
              unfold validB
              rw [if_neg (by rintro ⟨_, h⟩; exact h rfl), if_pos rfl, hall, hc]; rfl
            · rw [if_neg hnum] at hk
              dsimp only at hk
              omega
          · have hrun' : isRunB c = false := by simpa using hrun
            by_cases h34 : c.toNat = 34
            · exfalso
              have e : tokL (c :: l) = textL l := by
                unfold tokL; dsimp only; rw [if_neg hrun, if_pos h34]
              rw [e] at hk hc
              unfold textL at hk hc
              revert hk hc
              split
              · intro hc; cases hc
              · split
                · intro _ hk; dsimp only at hk; omega
                · intro hc; cases hc
            · by_cases h5' : kindOf c.toNat = 5
              · have e : tokL (c :: l) = ⟨4, [c], 0, l, 0⟩ := by
                  unfold tokL; dsimp only; rw [if_neg hrun, if_neg h34, if_pos h5']
                rw [e] at hr hk hn
                dsimp only at hr hk hn
                subst hr hk hn
                unfold validB
                rw [if_neg (by rintro ⟨_, h⟩; exact h rfl), if_neg (by decide), if_neg (by decide), if_neg (by decide), if_pos rfl]
                simp [h5']
              · exfalso
                have e : tokL (c :: l) = ⟨0, [], 0, [], 2⟩ := by
                  unfold tokL; dsimp only; rw [if_neg hrun, if_neg h34, if_neg h5']
                rw [e] at hc
                cases hc
      · rw [if_neg h14] at hs; exact absurd rfl hs
theorem Ev.const {α : Type} {x : Option α} {r : α} (h : x = some r) : Ev (fun _ => x) r := by subst h; exact Ev.now r
end Go.Proofs.YtkifdadhojbohaaGreatDoor.Pu
namespace Go.Proofs.YtkifdadhojbohaaGreatDoor.Pr
open Go.Proofs.YtkifdadhojbohaaGreatDoor
open Go.RowKit Go.Proofs.YtkifdadhojbohaaGreatDoorW.PrintWords Go.Proofs.YtkifdadhojbohaaGreatDoorW.PrintLast Go.Proofs.YtkifdadhojbohaaGreatDoorW.PrintMore
attribute [local go_sem] max2_int min2_int max_two min_two max_three min_three max_four min_four   -- for this text's walks alone
set_option linter.unusedVariables false
set_option linter.unusedSimpArgs false
mutual
def parser_Depth.l0 : Nat → Int → List (S41) → Int → Int → Option (Int)
 | 0, _, _, _, _ => none
 | k + 1, x3, x6, x7, x8 => if x8 < x7 then (if 0 ≤ x8 then (if x8 < (x6.length : Int) then (if (rd_T41 x6 x8).f2 = true then ((parser_Depth.f k ((rd_T41 x6 x8).f3)).bind fun t181 => (parser_Depth.l0 k (mx x3 (wrap64 (1 + t181))) x6 x7 (wrap64 (x8 + 1)))) else (parser_Depth.l0 k x3 x6 x7 (wrap64 (x8 + 1)))) else (none)) else (none)) else (some x3)
def parser_Depth.f : Nat → List (S41) → Option (Int)
 | 0, _ => none
 | k + 1, l0 => parser_Depth.l0 k 0 l0 (l0.length : Int) 0
end
theorem parser_Depth.mono_l : ∀ k, (∀ y0, LeO (parser_Depth.f k y0) (parser_Depth.f (k + 1) y0)) ∧ (∀ y0 y1 y2 y3, LeO (parser_Depth.l0 k y0 y1 y2 y3) (parser_Depth.l0 (k + 1) y0 y1 y2 y3))
 | 0 => ⟨fun _ r h => by simp [parser_Depth.f] at h, fun _ _ _ _ r h => by simp [parser_Depth.l0] at h⟩
 | k + 1 => by
  obtain ⟨ih0, ih1⟩ := parser_Depth.mono_l k
  refine ⟨?_, ?_⟩
  ·
   intro y0
   unfold parser_Depth.f
   repeat' first
   | (with_reducible exact LeO.refl _)
   | exact ih0 _
   | exact ih1 _ _ _ _
   | exact LeO.none _
   | refine LeO.ite ?_ ?_
   | refine LeO.bind ?_ (fun _ => ?_)
  ·
   intro y0 y1 y2 y3
   unfold parser_Depth.l0
   repeat' first
   | (with_reducible exact LeO.refl _)
   | exact ih0 _
   | exact ih1 _ _ _ _
   | exact LeO.none _
   | refine LeO.ite ?_ ?_
   | refine LeO.bind ?_ (fun _ => ?_)
theorem parser_Depth.mono : ∀ a0 k, LeO (parser_Depth.f k a0) (parser_Depth.f (k + 1) a0) := by
 intro a0 k
 obtain ⟨ih0, ih1⟩ := parser_Depth.mono_l k
 exact ih0 a0
theorem parser_Depth.calls (k : Nat) : ∀ (A0 : Option Addr) (c0 : Nat) (l0 : List (S41)) (r : Int) (w : World) (hr0 : Kd.C k41 w A0 l0.length l0) (hc0 : l0.length ≤ c0) (h : parser_Depth.f k l0 = some r),
  Calls Tryz.prog 40 #[.slice A0 l0.length c0] w fun e w' => e = .returned (.int .i64 r) ∧ Below w.heap.size w w' := by
 induction k using Nat.strongRecOn with
 | _ k ih =>
 intro A0 c0 l0 r w hr0 hc0 h
 cases k with
 | zero => exact absurd h (by simp [parser_Depth.f])
 | succ k =>
 simp only [parser_Depth.f] at h; have hu41 := Tryz.underlying25; have HR0 := Aside0.mk hr0; have HC0 := Aside0.mk hc0; clear hr0 hc0; have HB := Aside0.mk (Below.refl w.heap.size w); have H : (parser_Depth.l0 k 0 l0 (l0.length : Int) 0) = some r := h; clear h; have H' := Aside0.mk H; clear H
 go_enter Tryz.func40, Tryz.ntmps40
 go_wp2
 go_loopg [3, 8] k (fun kq v3 v8 w' => ∃ (x3_1 : Int) (x8_1 : Int), v3 = .int .i64 x3_1 ∧ v8 = .int .i64 x8_1 ∧ Aside0 (parser_Depth.l0 kq x3_1 l0 (l0.length : Int) x8_1 = some r) ∧ Aside0 (kq ≤ k) ∧ Aside0 (Below w.heap.size w w'))
 case atStart => exact ⟨(0), (0), sr_, sr_, H', ⟨Nat.le_refl _⟩, ⟨bl_ HB.out⟩⟩
 case round =>
  clear H'; obtain ⟨x3_1, x8_1, rfl, rfl, HA, HK1, HB⟩ := hrel; obtain _ | k1 := gk
  · exact absurd HA.out (by simp [parser_Depth.l0])
  have H := HA.out; clear HA; simp only [parser_Depth.l0] at H; replace H := (sd_ H).symm; obtain ⟨c2b0, H⟩ | ⟨c2b0, H⟩ := H
  ·
   obtain rfl := Option.some.inj H
   go_wp2
   go_ret
   exact ⟨er_, bl_ HB.out⟩
  replace H := gd_ H; obtain ⟨c3b0, H⟩ := H; replace H := gd_ H; obtain ⟨c4b0, H⟩ := H; obtain ⟨bq5, hbq5⟩ : ∃ b_ : Bool, b_ = ((rd_T41 l0 x8_1).f2) := ⟨_, rfl⟩; replace H : (if bq5 = true then ((parser_Depth.f k1 ((rd_T41 l0 x8_1).f3)).bind fun t181 => (parser_Depth.l0 k1 (mx x3_1 (wrap64 (1 + t181))) l0 (l0.length : Int) (wrap64 (x8_1 + 1)))) else (parser_Depth.l0 k1 x3_1 l0 (l0.length : Int) (wrap64 (x8_1 + 1)))) = some r := by rw [← hbq5] at H; exact H
  have Nbq5 := Aside0.mk hbq5; clear hbq5; replace H := (sb_ H).symm; obtain ⟨rfl, H⟩ | ⟨rfl, H⟩ := H
  ·
   have H' := Aside0.mk H; clear H; have p179 : 0 ≤ (x8_1 : Int) := dt_; have q179 : x8_1 < (l0.length : Int) := dt_; obtain ⟨ad179, A179_1, c179_1, A179_3, c179_3, e179, hx179_0, hx179_1, hx179_2, hx179_3, hx179_4, hl179_1, hi179_1, hl179_3, hi179_3⟩ := at_T41 HR0.out x8_1 p179 q179; (try rw [← Nbq5.out] at hx179_2); cases e179; replace hx179_0 := pw_cell_below HB.out hx179_0; replace hx179_1 := pw_cell_below HB.out hx179_1; replace hx179_2 := pw_cell_below HB.out hx179_2; replace hx179_3 := pw_cell_below HB.out hx179_3; replace hx179_4 := pw_cell_below HB.out hx179_4; have HR179_1 := Aside0.mk hi179_1; have HC179_1 := Aside0.mk hl179_1; clear hi179_1 hl179_1; have HR179_3 := Aside0.mk hi179_3; have HC179_3 := Aside0.mk hl179_3; clear hi179_3 hl179_3; replace p179 := eq_true p179; replace q179 := eq_true q179
   go_wp2_with (first | ((with_reducible refine gate_dst (N := 5) rfl ?_); refine bx_ (N := 5) (cs := #[.string (⟨#[]⟩ : ByteArray), .slice none 0 0, .bool false, .slice none 0 0, .int .i64 0]) (t := 25) ?_; intro gb180 hg w12 hbox hb; refine cut4_ (below_step (bl_ HB.out) hb) (hbox) (bz_ (w := w) hg (bl_ HB.out)) (bz_ (w := w) hg (bl_ HB.out)) ?_; clear HB; intro HB BK180 GW180 GE180; clear hb hbox hg; obtain ⟨hcz13_0, hcz13_1, hcz13_2, hcz13_3, hcz13_4, hfz13_0, hfz13_1, hfz13_2, hfz13_3, hfz13_4⟩ := cq5_ BK180.out))
   go_roundg k1
   case measure => have := HK1.out; omega
   case rel => exact ⟨(x3_1), (wrap64 (x8_1 + 1)), sr_, sr_, H', ⟨om_ HK1.out⟩, ⟨bl1_ HB.out GE180.out⟩⟩
  replace H := bn_ H; obtain ⟨t181, A7, H⟩ := H; (try dsimp only at H); obtain ⟨ji8, hji8⟩ : ∃ j_ : Int, (mx x3_1 (wrap64 (1 + t181))) = j_ := ⟨_, rfl⟩; replace H : (parser_Depth.l0 k1 ji8 l0 (l0.length : Int) (wrap64 (x8_1 + 1))) = some r := by first | (rw [hji8] at H; exact H) | (simp only [hji8] at H ⊢; exact H)
  (try rw [hji8] at A7); have hji8_ : (if x3_1 < (wrap64 (1 + t181)) then (wrap64 (1 + t181)) else x3_1) = ji8 := hji8; have H' := Aside0.mk H; clear H; have p179 : 0 ≤ (x8_1 : Int) := dt_; have q179 : x8_1 < (l0.length : Int) := dt_; obtain ⟨ad179, A179_1, c179_1, A179_3, c179_3, e179, hx179_0, hx179_1, hx179_2, hx179_3, hx179_4, hl179_1, hi179_1, hl179_3, hi179_3⟩ := at_T41 HR0.out x8_1 p179 q179; (try rw [← Nbq5.out] at hx179_2); cases e179; replace hx179_0 := pw_cell_below HB.out hx179_0; replace hx179_1 := pw_cell_below HB.out hx179_1; replace hx179_2 := pw_cell_below HB.out hx179_2; replace hx179_3 := pw_cell_below HB.out hx179_3; replace hx179_4 := pw_cell_below HB.out hx179_4; have HR179_1 := Aside0.mk hi179_1; have HC179_1 := Aside0.mk hl179_1; clear hi179_1 hl179_1; have HR179_3 := Aside0.mk hi179_3; have HC179_3 := Aside0.mk hl179_3; clear hi179_3 hl179_3; replace p179 := eq_true p179; replace q179 := eq_true q179
  go_wp2_with (first | ((with_reducible refine gate_dst (N := 5) rfl ?_); refine bx_ (N := 5) (cs := #[.string (⟨#[]⟩ : ByteArray), .slice none 0 0, .bool false, .slice none 0 0, .int .i64 0]) (t := 25) ?_; intro gb180 hg w9 hbox hb; refine cut4_ (below_step (bl_ HB.out) hb) (hbox) (bz_ (w := w) hg (bl_ HB.out)) (bz_ (w := w) hg (bl_ HB.out)) ?_; clear HB; intro HB BK180 GW180 GE180; clear hb hbox hg; obtain ⟨hcz10_0, hcz10_1, hcz10_2, hcz10_3, hcz10_4, hfz10_0, hfz10_1, hfz10_2, hfz10_3, hfz10_4⟩ := cq5_ BK180.out) | ((with_reducible refine gate_callee (f := 40) rfl ?_); refine gk_ (some 17) Tryz.func40 (ih k1 (by have := HK1.out; omega) _ _ ((rd_T41 l0 x8_1).f3) t181 _ ?side1 ?side2 A7.out) ?_; (case side1 => exact Kd.C_below HR179_3.out (bl1_ HB.out GE180.out)); (case side2 => exact HC179_3.out); rintro e w11 ⟨rfl, hb⟩; refine ⟨_, rfl, ?_⟩; refine cut2_ (blk_below (g := gb180) (o := .cells #[.string ((rd_T41 l0 x8_1).f0), .slice A179_1 ((rd_T41 l0 x8_1).f1).length c179_1, .bool true, .slice A179_3 ((rd_T41 l0 x8_1).f3).length c179_3, .int .i64 ((rd_T41 l0 x8_1).f4)] 25 (0, 0)) (put5_ (bk_ BK180.out)) hb) (below_step (bl1_ HB.out GE180.out) hb) ?_; clear hb BK180 HB; intro BK180 HB))
  go_roundg k1
  case measure => have := HK1.out; omega
  case rel => exact ⟨(ji8), (wrap64 (x8_1 + 1)), (by first | rfl | (simp; done) | (simp only [← hji8] <;> (first | rfl | simp)) | (simp [*]; done)), sr_, H', ⟨om_ HK1.out⟩, ⟨bl1_ HB.out GE180.out⟩⟩
mutual
def parser_Count.l0 : Nat → Int → List (S41) → Int → Int → Option (Int)
 | 0, _, _, _, _ => none
 | k + 1, x3, x8, x9, x10 => if x10 < x9 then (if 0 ≤ x10 then (if x10 < (x8.length : Int) then ((parser_Count.f k ((rd_T41 x8 x10).f3)).bind fun t200 => (parser_Count.l0 k (wrap64 (x3 + t200)) x8 x9 (wrap64 (x10 + 1)))) else (none)) else (none)) else (some x3)
def parser_Count.f : Nat → List (S41) → Option (Int)
 | 0, _ => none
 | k + 1, l0 => parser_Count.l0 k (l0.length : Int) l0 (l0.length : Int) 0
end
theorem parser_Count.mono_l : ∀ k, (∀ y0, LeO (parser_Count.f k y0) (parser_Count.f (k + 1) y0)) ∧ (∀ y0 y1 y2 y3, LeO (parser_Count.l0 k y0 y1 y2 y3) (parser_Count.l0 (k + 1) y0 y1 y2 y3))
 | 0 => ⟨fun _ r h => by simp [parser_Count.f] at h, fun _ _ _ _ r h => by simp [parser_Count.l0] at h⟩
 | k + 1 => by
  obtain ⟨ih0, ih1⟩ := parser_Count.mono_l k
  refine ⟨?_, ?_⟩
  ·
   intro y0
   unfold parser_Count.f
   repeat' first
   | (with_reducible exact LeO.refl _)
   | exact ih0 _
   | exact ih1 _ _ _ _
   | exact LeO.none _
   | refine LeO.ite ?_ ?_
   | refine LeO.bind ?_ (fun _ => ?_)
  ·
   intro y0 y1 y2 y3
   unfold parser_Count.l0
   repeat' first
   | (with_reducible exact LeO.refl _)
   | exact ih0 _
   | exact ih1 _ _ _ _
   | exact LeO.none _
   | refine LeO.ite ?_ ?_
   | refine LeO.bind ?_ (fun _ => ?_)
theorem parser_Count.mono : ∀ a0 k, LeO (parser_Count.f k a0) (parser_Count.f (k + 1) a0) := by
 intro a0 k
 obtain ⟨ih0, ih1⟩ := parser_Count.mono_l k
 exact ih0 a0
theorem parser_Count.calls (k : Nat) : ∀ (A0 : Option Addr) (c0 : Nat) (l0 : List (S41)) (r : Int) (w : World) (hr0 : Kd.C k41 w A0 l0.length l0) (hc0 : l0.length ≤ c0) (h : parser_Count.f k l0 = some r),
  Calls Tryz.prog 15 #[.slice A0 l0.length c0] w fun e w' => e = .returned (.int .i64 r) ∧ Below w.heap.size w w' := by
 induction k using Nat.strongRecOn with
 | _ k ih =>
 intro A0 c0 l0 r w hr0 hc0 h
 cases k with
 | zero => exact absurd h (by simp [parser_Count.f])
 | succ k =>
 simp only [parser_Count.f] at h; have hu41 := Tryz.underlying25; have HR0 := Aside0.mk hr0; have HC0 := Aside0.mk hc0; clear hr0 hc0; have HB := Aside0.mk (Below.refl w.heap.size w); have H : (parser_Count.l0 k (l0.length : Int) l0 (l0.length : Int) 0) = some r := h; clear h; have H' := Aside0.mk H; clear H
 go_enter Tryz.func15, Tryz.ntmps15
 go_wp2
 go_loopg [3, 10] k (fun kq v3 v10 w' => ∃ (x3_1 : Int) (x10_1 : Int), v3 = .int .i64 x3_1 ∧ v10 = .int .i64 x10_1 ∧ Aside0 (parser_Count.l0 kq x3_1 l0 (l0.length : Int) x10_1 = some r) ∧ Aside0 (kq ≤ k) ∧ Aside0 (Below w.heap.size w w'))
 case atStart => exact ⟨((l0.length : Int)), (0), sr_, sr_, H', ⟨Nat.le_refl _⟩, ⟨bl_ HB.out⟩⟩
 case round =>
  clear H'; obtain ⟨x3_1, x10_1, rfl, rfl, HA, HK1, HB⟩ := hrel; obtain _ | k1 := gk
  · exact absurd HA.out (by simp [parser_Count.l0])
  have H := HA.out; clear HA; simp only [parser_Count.l0] at H; replace H := (sd_ H).symm; obtain ⟨c2b0, H⟩ | ⟨c2b0, H⟩ := H
  ·
   obtain rfl := Option.some.inj H
   go_wp2
   go_ret
   exact ⟨er_, bl_ HB.out⟩
  replace H := gd_ H; obtain ⟨c3b0, H⟩ := H; replace H := gd_ H; obtain ⟨c4b0, H⟩ := H; replace H := bn_ H; obtain ⟨t200, A5, H⟩ := H; (try dsimp only at H); have H' := Aside0.mk H; clear H; have p198 : 0 ≤ (x10_1 : Int) := dt_; have q198 : x10_1 < (l0.length : Int) := dt_; obtain ⟨ad198, A198_1, c198_1, A198_3, c198_3, e198, hx198_0, hx198_1, hx198_2, hx198_3, hx198_4, hl198_1, hi198_1, hl198_3, hi198_3⟩ := at_T41 HR0.out x10_1 p198 q198; cases e198; replace hx198_0 := pw_cell_below HB.out hx198_0; replace hx198_1 := pw_cell_below HB.out hx198_1; replace hx198_2 := pw_cell_below HB.out hx198_2; replace hx198_3 := pw_cell_below HB.out hx198_3; replace hx198_4 := pw_cell_below HB.out hx198_4; have HR198_1 := Aside0.mk hi198_1; have HC198_1 := Aside0.mk hl198_1; clear hi198_1 hl198_1; have HR198_3 := Aside0.mk hi198_3; have HC198_3 := Aside0.mk hl198_3; clear hi198_3 hl198_3; replace p198 := eq_true p198; replace q198 := eq_true q198
  go_wp2_with (first | ((with_reducible refine gate_dst (N := 5) rfl ?_); refine bx_ (N := 5) (cs := #[.string (⟨#[]⟩ : ByteArray), .slice none 0 0, .bool false, .slice none 0 0, .int .i64 0]) (t := 25) ?_; intro gb199 hg w6 hbox hb; refine cut4_ (below_step (bl_ HB.out) hb) (hbox) (bz_ (w := w) hg (bl_ HB.out)) (bz_ (w := w) hg (bl_ HB.out)) ?_; clear HB; intro HB BK199 GW199 GE199; clear hb hbox hg; obtain ⟨hcz7_0, hcz7_1, hcz7_2, hcz7_3, hcz7_4, hfz7_0, hfz7_1, hfz7_2, hfz7_3, hfz7_4⟩ := cq5_ BK199.out) | ((with_reducible refine gate_callee (f := 15) rfl ?_); refine gk_ (some 17) Tryz.func15 (ih k1 (by have := HK1.out; omega) _ _ ((rd_T41 l0 x10_1).f3) t200 _ ?side1 ?side2 A5.out) ?_; (case side1 => exact Kd.C_below HR198_3.out (bl1_ HB.out GE199.out)); (case side2 => exact HC198_3.out); rintro e w8 ⟨rfl, hb⟩; refine ⟨_, rfl, ?_⟩; refine cut2_ (blk_below (g := gb199) (o := .cells #[.string ((rd_T41 l0 x10_1).f0), .slice A198_1 ((rd_T41 l0 x10_1).f1).length c198_1, .bool ((rd_T41 l0 x10_1).f2), .slice A198_3 ((rd_T41 l0 x10_1).f3).length c198_3, .int .i64 ((rd_T41 l0 x10_1).f4)] 25 (0, 0)) (put5_ (bk_ BK199.out)) hb) (below_step (bl1_ HB.out GE199.out) hb) ?_; clear hb BK199 HB; intro BK199 HB))
  go_roundg k1
  case measure => have := HK1.out; omega
  case rel => exact ⟨(wrap64 (x3_1 + t200)), (wrap64 (x10_1 + 1)), sr_, sr_, H', ⟨om_ HK1.out⟩, ⟨bl1_ HB.out GE199.out⟩⟩
end Go.Proofs.YtkifdadhojbohaaGreatDoor.Pr
namespace Go.Proofs.YtkifdadhojbohaaGreatDoor.Pu
open Go.RowKit Go.Proofs.YtkifdadhojbohaaGreatDoor Go.Proofs.YtkifdadhojbohaaGreatDoor.Pr Go.Proofs.YtkifdadhojbohaaGreatDoorW.PrintWords Go.Proofs.YtkifdadhojbohaaGreatDoorW.PrintLast Go.Proofs.YtkifdadhojbohaaGreatDoorW.PrintMore
theorem size_kids (c : S41) (l : List S41) : SizeOf.sizeOf c.f3 < SizeOf.sizeOf (c :: l) := by
  cases c; simp; omega
theorem size_tail (c : S41) (l : List S41) : SizeOf.sizeOf l < SizeOf.sizeOf (c :: l) := by
  simp; omega
theorem indL {P : List S41 → Prop} (h0 : P []) (h1 : ∀ c l, P c.f3 → P l → P (c :: l)) : ∀ l, P l := by
  have key : ∀ n, ∀ l : List S41, SizeOf.sizeOf l < n → P l := by
    intro n
    induction n with
    | zero => intro l h; omega
    | succ n ih =>
      intro l h
      cases l with
      | nil => exact h0
      | cons c l => exact h1 c l (ih _ (by have := size_kids c l; omega)) (ih _ (by have := size_tail c l; omega))
  exact fun l => key (SizeOf.sizeOf l + 1) l (by omega)
theorem Ev.cast {α : Type} {g : Nat → Option α} {r s : α} (h : r = s) (k : Ev g r) : Ev g s := h ▸ k
def depL : List S41 → Nat
  | [] => 0
  | c :: l => max (if c.f2 = true then 1 + depL c.f3 else 0) (depL l)
termination_by l => SizeOf.sizeOf l
decreasing_by
  · exact size_kids c l
  · exact size_tail c l
def cntL : List S41 → Nat
  | [] => 0
  | c :: l => 1 + cntL c.f3 + cntL l
termination_by l => SizeOf.sizeOf l
decreasing_by
  · exact size_kids c l
  · exact size_tail c l
def szL : List S41 → Nat
  | [] => 0
  | c :: l => 1 + c.f1.length + szL c.f3 + szL l
termination_by l => SizeOf.sizeOf l
decreasing_by
  · exact size_kids c l
  · exact size_tail c l
def okA (t : S46) : Bool := isA t && validB t.f0 (lst t.f1) t.f2
def formL : List S41 → Bool
  | [] => true
  | c :: l => validB 1 (lst c.f0) 0 && (c.f2 || c.f3.isEmpty) && c.f1.all okA && formL c.f3 && formL l
termination_by l => SizeOf.sizeOf l
decreasing_by
  · exact size_kids c l
  · exact size_tail c l
def sgT (b : UInt8) : S46 := ⟨4, (⟨#[b]⟩ : ByteArray), 0, 0⟩
def toksL : List S41 → List S46
  | [] => []
  | c :: l => ⟨1, c.f0, 0, 0⟩ :: c.f1 ++ (if c.f2 = true then sgT 123 :: toksL c.f3 ++ [sgT 125] else [sgT 59]) ++ toksL l
termination_by l => SizeOf.sizeOf l
decreasing_by
  · exact size_kids c l
  · exact size_tail c l
inductive AllC (P : S41 → Prop) : List S41 → Prop
  | nil : AllC P []
  | cons (c : S41) (l : List S41) : P c → AllC P c.f3 → AllC P l → AllC P (c :: l)
def txt (n : Nat) (c : S41) : Prop := c.f0.size ≤ n ∧ ∀ a ∈ c.f1, a.f1.size ≤ n
theorem dep_le : ∀ l, depL l ≤ szL l := by
  refine indL (by simp [depL]) ?_
  intro c l h1 h2
  rw [depL, szL]
  split <;> omega
theorem cnt_le : ∀ l, cntL l ≤ szL l := by
  refine indL (by simp [cntL]) ?_
  intro c l h1 h2
  rw [cntL, szL]
  omega
theorem len_le : ∀ l : List S41, l.length ≤ szL l := by
  refine indL (by simp) ?_
  intro c l h1 h2
  rw [szL, List.length_cons]
  omega
theorem cnt_len : ∀ l : List S41, l.length ≤ cntL l := by
  refine indL (by simp) ?_
  intro c l h1 h2
  rw [cntL, List.length_cons]
  omega
theorem toks_le : ∀ l, (toksL l).length ≤ 3 * szL l := by
  refine indL (by simp [toksL]) ?_
  intro c l h1 h2
  rw [toksL, szL]
  split <;> simp <;> omega
theorem mx_nat (a b : Nat) : mx (a : Int) (b : Int) = ((max a b : Nat) : Int) := by
  unfold mx
  split <;> omega
theorem Depth_f : ∀ l, szL l ≤ 900000 → Ev (fun k => parser_Depth.f k l) (depL l : Int) := by
  have loop : ∀ l, szL l ≤ 900000 → ∀ (A : List S41) (i m : Nat), A.drop i = l → A.length ≤ 900000 → m ≤ 900000 → i ≤ A.length → Ev (fun k => parser_Depth.l0 k (m : Int) A (A.length : Int) (i : Int)) ((max m (depL l) : Nat) : Int) := by
    refine indL ?_ ?_
    · intro _ A i m hA hn hm hi
      have : A.length ≤ i := by
        have := congrArg List.length hA
        rw [List.length_drop] at this
        simp at this; omega
      refine Ev.succ ?_
      simp only [parser_Depth.l0]
      exact Ev.ifn (by omega) (Ev.ret (by simp [depL]))
    · intro c l h1 h2 hs A i m hA hn hm hi
      rw [szL] at hs
      obtain ⟨a1, a2, a3⟩ := rd41_at hA
      have hd := dep_le c.f3
      have hc := len_le c.f3
      refine Ev.succ ?_
      simp only [parser_Depth.l0, a2]
      rw [wrap_nat i (by omega)]
      refine Ev.ifp (by omega) (Ev.ifp natO (Ev.ifp (by omega) ?_))
      by_cases hb : c.f2 = true
      · refine Ev.ifp hb (Ev.bind (a := ((depL c.f3 : Nat) : Int)) ?_ ?_)
        · refine Ev.succ ?_
          simp only [parser_Depth.f]
          simpa using h1 (by omega) c.f3 0 0 rfl (by omega) (by omega) (by omega)
        · have e : wrap64 (1 + ((depL c.f3 : Nat) : Int)) = ((1 + depL c.f3 : Nat) : Int) := by rw [wrap64_of (by omega) (by omega)]; omega
          rw [e, mx_nat]
          have := h2 (by omega) A (i + 1) (max m (1 + depL c.f3)) a3 hn (by omega) (by omega)
          rw [depL, if_pos hb]
          rwa [← Nat.max_assoc]
      · refine Ev.ifn hb ?_
        have := h2 (by omega) A (i + 1) m a3 hn (by omega) (by omega)
        rw [depL, if_neg hb]
        simpa using this
  intro l hl
  have := len_le l
  refine Ev.succ ?_
  simp only [parser_Depth.f]
  simpa using loop l hl l 0 0 rfl (by omega) (by omega) (by omega)
theorem Count_f : ∀ l, szL l ≤ 900000 → Ev (fun k => parser_Count.f k l) (cntL l : Int) := by
  have loop : ∀ l, szL l ≤ 900000 → ∀ (A : List S41) (i m : Nat), A.drop i = l → A.length ≤ 900000 → m + cntL l ≤ 2000000 → i ≤ A.length → Ev (fun k => parser_Count.l0 k (m : Int) A (A.length : Int) (i : Int)) ((m + (cntL l - l.length) : Nat) : Int) := by
    refine indL ?_ ?_
    · intro _ A i m hA hn hm hi
      have : A.length ≤ i := by
        have := congrArg List.length hA
        rw [List.length_drop] at this
        simp at this; omega
      refine Ev.succ ?_
      simp only [parser_Count.l0]
      exact Ev.ifn (by omega) (Ev.ret (by simp [cntL]))
    · intro c l h1 h2 hs A i m hA hn hm hi
      rw [szL] at hs
      rw [cntL] at hm
      obtain ⟨a1, a2, a3⟩ := rd41_at hA
      have hd := cnt_le c.f3
      have hc := len_le c.f3
      have hk := cnt_len c.f3
      have hl := cnt_len l
      refine Ev.succ ?_
      simp only [parser_Count.l0, a2]
      rw [wrap_nat i (by omega)]
      refine Ev.ifp (by omega) (Ev.ifp natO (Ev.ifp (by omega) ?_))
      refine Ev.bind (a := ((cntL c.f3 : Nat) : Int)) ?_ ?_
      · refine Ev.succ ?_
        simp only [parser_Count.f]
        have := h1 (by omega) c.f3 0 c.f3.length rfl (by omega) (by omega) (by omega)
        rw [show c.f3.length + (cntL c.f3 - c.f3.length) = cntL c.f3 by omega] at this
        simpa using this
      · have e : wrap64 ((m : Int) + ((cntL c.f3 : Nat) : Int)) = ((m + cntL c.f3 : Nat) : Int) := by rw [wrap64_of (by omega) (by omega)]; omega
        rw [e]
        clear e
        have hm2 : m + cntL c.f3 + cntL l ≤ 2000000 := (show ∀ a b d : Nat, a + (1 + b + d) ≤ 2000000 → a + b + d ≤ 2000000 by intro a b d h; omega) _ _ _ hm
        have := h2 (by omega) A (i + 1) (m + cntL c.f3) a3 hn hm2 (by omega)
        refine Ev.cast ?_ this
        have e2 : cntL (c :: l) = 1 + cntL c.f3 + cntL l := by rw [cntL]
        have e3 : (c :: l).length = l.length + 1 := List.length_cons
        generalize cntL (c :: l) = x at e2 ⊢
        generalize (c :: l).length = y at e3 ⊢
        omega
  intro l hl
  have h1 := len_le l
  have h2 := cnt_len l
  have h3 := cnt_le l
  refine Ev.succ ?_
  simp only [parser_Count.f]
  have := loop l hl l 0 l.length rfl (by omega) (by omega) (by omega)
  rw [show l.length + (cntL l - l.length) = cntL l by omega] at this
  simpa using this
def chkL (l : List S41) : Int := if formL l = true then (if 8 < depL l then 6 else 0) else 2
theorem RL.facts {o : Nat} {ts : List S46} {x : Ans} (h : RL o ts x) : o ≤ 8 → ∀ cs r, x = .ok (cs, r) → szL cs + r.length ≤ ts.length ∧ depL cs + o ≤ 8 ∧ (toksL cs).length + r.length = ts.length := by
  induction h with
  | stop o t r => intro ho cs r' hx; cases hx; simp [szL, depL, toksL]; exact ho
  | bad => intro _ cs r hx; cases hx
  | semi o t ats u r x h1 h2 h3 hr ih =>
    intro ho cs q hx
    cases x with
    | error e => cases hx
    | ok y =>
      cases hx
      obtain ⟨g1, g2, g3⟩ := ih ho _ _ rfl
      rw [szL, depL, toksL]
      simp [szL]
      omega
  | syn => intro _ cs r hx; cases hx
  | lim => intro _ cs r hx; cases hx
  | blk o t ats u r ks b q x ho h1 h2 h3 hk hr ihk ih =>
    intro ho' cs q' hx
    cases x with
    | error e => cases hx
    | ok y =>
      cases hx
      obtain ⟨g1, g2, g3⟩ := ihk (by omega) _ _ rfl
      obtain ⟨k1, k2, k3⟩ := ih ho' _ _ rfl
      rw [szL, depL, toksL]
      simp at g1 g3 ⊢
      omega
  | blkF => intro _ cs r hx; cases hx
theorem RL.form {o : Nat} {ts : List S46} {x : Ans} (h : RL o ts x) : (∀ t ∈ ts, validB t.f0 (lst t.f1) t.f2 = true ∧ t.f1.size ≤ 900000) → ∀ cs r, x = .ok (cs, r) → formL cs = true ∧ AllC (txt 900000) cs := by
  have hword : ∀ t : S46, validB t.f0 (lst t.f1) t.f2 = true → t.f0 = 1 → validB 1 (lst t.f1) 0 = true := by
    intro t hv h1
    rw [h1] at hv
    by_cases hn : t.f2 = 0
    · rwa [hn] at hv
    · unfold validB at hv
      rw [if_pos ⟨by decide, hn⟩] at hv
      cases hv
  induction h with
  | stop => intro _ cs r hx; cases hx; exact ⟨by simp [formL], AllC.nil⟩
  | bad => intro _ cs r hx; cases hx
  | semi o t ats u r x h1 h2 h3 hr ih =>
    intro hv cs q hx
    cases x with
    | error e => cases hx
    | ok y =>
      cases hx
      obtain ⟨g1, g2⟩ := ih (fun a ha => hv a (by simp [ha])) _ _ rfl
      refine ⟨?_, AllC.cons _ _ ⟨(hv t (by simp)).2, fun a ha => (hv a (by simp [show a ∈ ats from ha])).2⟩ AllC.nil g2⟩
      rw [formL]
      have ha : ats.all okA = true := List.all_eq_true.2 (fun a ha => by simp [okA, h2 a ha, (hv a (by simp [ha])).1])
      simp [hword t (hv t (by simp)).1 h1, g1, formL]
      simpa using ha
  | syn => intro _ cs r hx; cases hx
  | lim => intro _ cs r hx; cases hx
  | blk o t ats u r ks b q x ho h1 h2 h3 hk hr ihk ih =>
    intro hv cs q' hx
    cases x with
    | error e => cases hx
    | ok y =>
      cases hx
      obtain ⟨g1, g2⟩ := ihk (fun a ha => hv a (by simp [ha])) _ _ rfl
      obtain ⟨b', q0, pk, f1, f2, f3, f4, f5⟩ := hk.frame _ _ rfl
      obtain ⟨k1, k2⟩ := ih (fun a ha => hv a (by rw [f4]; simp [ha])) _ _ rfl
      refine ⟨?_, AllC.cons _ _ ⟨(hv t (by simp)).2, fun a ha => (hv a (by simp [show a ∈ ats from ha])).2⟩ g2 k2⟩
      rw [formL]
      have ha : ats.all okA = true := List.all_eq_true.2 (fun a ha => by simp [okA, h2 a ha, (hv a (by simp [ha])).1])
      simp [hword t (hv t (by simp)).1 h1, g1, k1]
      simpa using ha
  | blkF => intro _ cs r hx; cases hx
end Go.Proofs.YtkifdadhojbohaaGreatDoor.Pu
namespace Go.Proofs.YtkifdadhojbohaaGreatDoor.Pr
open Go.Proofs.YtkifdadhojbohaaGreatDoor
open Go.RowKit Go.Proofs.YtkifdadhojbohaaGreatDoorW.PrintWords Go.Proofs.YtkifdadhojbohaaGreatDoorW.PrintLast Go.Proofs.YtkifdadhojbohaaGreatDoorW.PrintMore
set_option linter.unusedVariables false
set_option linter.unusedSimpArgs false
def parser_Parse.f (k : Nat) (a0 : ByteArray) : Option ((List (S41)) × Int × Int) := (lexer_Lex.f k a0).bind fun b => (if b.2.1 = 0 then ((parser_entries.f k b.1 0 0 0 0).bind fun e => (if e.2.2.1 = 0 then (some (e.1, 0, 0)) else (some (([] : List (S41)), e.2.2.1, e.2.2.2)))) else (some (([] : List (S41)), b.2.1, b.2.2)))
theorem parser_Parse.mono : ∀ a0 k, LeO (parser_Parse.f k a0) (parser_Parse.f (k + 1) a0) := by
 intro a0 k
 unfold parser_Parse.f
 repeat' first
  | exact lexer_Lex.mono _ _
  | exact parser_entries.mono _ _ _ _ _ _
  | exact LeO.refl _
  | exact LeO.none _
  | refine LeO.ite ?_ ?_
  | refine LeO.bind ?_ (fun _ => ?_)
theorem parser_Parse.calls (k : Nat) (a0 : ByteArray) (r1 : List (S41)) (r2 : Int) (r3 : Int) (w : World) (h : parser_Parse.f k a0 = some (r1, r2, r3)) :
  Calls Tryz.prog 37 #[.string a0] w fun e w' => ∃ v0_ : Value, e = .returned (.tuple #[v0_, .agg #[.int .i64 r2, .int .i64 r3]]) ∧ Kd.R k41 25 w' w.heap.size (fun _ => True) v0_ r1 ∧ Below w.heap.size w w' := by
 have hu26 := Tryz.underlying40; have hu41 := Tryz.underlying25; have hu69 := Tryz.underlying82; have HB := Aside0.mk (Below.refl w.heap.size w); have H : ((lexer_Lex.f k a0).bind fun b => (if b.2.1 = 0 then ((parser_entries.f k b.1 0 0 0 0).bind fun e => (if e.2.2.1 = 0 then (some (e.1, 0, 0)) else (some (([] : List (S41)), e.2.2.1, e.2.2.2)))) else (some (([] : List (S41)), b.2.1, b.2.2)))) = some (r1, r2, r3) := h; clear h; replace H := bn_ H; obtain ⟨⟨t1, t2, t3⟩, A2, H⟩ := H; (try dsimp only at H); replace H := (sp_ H).symm; obtain ⟨c3, H⟩ | ⟨c3, H⟩ := H
 ·
  have c3b0 := beq_eq_false_iff_ne.mpr c3; have c3b1 := bne_iff_ne.mpr c3; simp only [Option.some.injEq, Prod.mk.injEq] at H; obtain ⟨rfl, rfl, rfl⟩ := H
  go_enter Tryz.func37, Tryz.ntmps37
  try go_wp2_with (first | ((with_reducible refine gate_dst (N := 3) rfl ?_); refine bx_ (N := 3) (cs := #[.int .i64 0, .int .i64 0]) (t := 40) ?_; intro gb3 hg w4 hbox hb; have n0_ := Aside0.mk (below_step (bl_ HB.out) hb); have n1_ := Aside0.mk (hbox); have n3_ := Aside0.mk (bz_ (w := w) hg (bl_ HB.out)); clear HB; have HB := n0_; have BK3 := n1_; have GE3 := n3_; clear n0_ n1_ n3_; clear hb hbox hg) | ((with_reducible refine gate_callee (f := 52) rfl ?_); refine gk_ (some 10) Tryz.func52 (lexer_Lex.calls k a0 t1 t2 t3 _ A2.out) ?_; rintro e w5 ⟨v1, rfl, ho0, hb⟩; refine ⟨_, rfl, ?_⟩; refine cut3_ (Kd.R_lower ho0 (below_size (bl1_ HB.out GE3.out))) (bb_ BK3.out hb) (below_step (bl1_ HB.out GE3.out) hb) ?_; clear BK3 HB; intro HO1 BK3 HB; (try clear hb); (try clear ho0)) | ((with_reducible refine gate_dst (N := 5) rfl ?_); refine bx_ (N := 5) (cs := #[.int .i64 0, .int .i64 0]) (t := 40) ?_; intro gb5 hg w55 hbox hb; have n0_ := Aside0.mk (Kd.R_below (rR_ HO1.out) hb); have n1_ := Aside0.mk (bb_ BK3.out hb); have n2_ := Aside0.mk (below_step (bl1_ HB.out GE3.out) hb); have n3_ := Aside0.mk (hbox); have n5_ := Aside0.mk (bz_ (w := w) hg (bl1_ HB.out GE3.out)); have n6_ := Aside0.mk (nl_ hg BK3.out); have n7_ := Aside0.mk (ng_ hg BK3.out); clear HO1; clear BK3; clear HB; have HO1 := n0_; have BK3 := n1_; have HB := n2_; have BK5 := n3_; have GE5 := n5_; have NB3_5 := n6_; have NB5_3 := n7_; clear n0_ n1_ n2_ n3_ n5_ n6_ n7_; clear hb hbox hg; have hnb56 := NB5_3.out; have hnc56 := NB3_5.out; obtain ⟨hcz57_0, hcz57_1, hfz57_0, hfz57_1⟩ := cq2_ BK5.out))
  have n0_ : Aside0 (Kd.R k46 50 ((w55.setCell ⟨gb5, 0, none⟩ (.int .i64 t2)).setCell ⟨gb5, 1, none⟩ (.int .i64 t3)) w.heap.size (fun _ => True) v1 t1) := ⟨rR_ (Kd.R_mono (rf2_ gb5 (Kd.R_types HO1.out BK5.out (by decide))) (fun _ hk => trivial))⟩; have n1_ : Aside0 (((w55.setCell ⟨gb5, 0, none⟩ (.int .i64 t2)).setCell ⟨gb5, 1, none⟩ (.int .i64 t3)).heap[gb3]? = some (.cells #[.int .i64 0, .int .i64 0] 40 (0, 0))) := ⟨by refine far2_ ?_ NB3_5.out; exact BK3.out⟩; have n2_ : Aside0 (((w55.setCell ⟨gb5, 0, none⟩ (.int .i64 t2)).setCell ⟨gb5, 1, none⟩ (.int .i64 t3)).heap[gb5]? = some (.cells #[.int .i64 t2, .int .i64 t3] 40 (0, 0))) := ⟨by refine blk_put (cs := #[.int .i64 t2, .int .i64 0]) ?_ 1 _ rfl; refine blk_put (cs := #[.int .i64 0, .int .i64 0]) ?_ 0 _ rfl; exact BK5.out⟩; have n3_ : Aside0 (Below w.heap.size w ((w55.setCell ⟨gb5, 0, none⟩ (.int .i64 t2)).setCell ⟨gb5, 1, none⟩ (.int .i64 t3))) := ⟨by repeat (first | (with_reducible first | exact HB.out | refine below_set ?_ GE3.out | refine below_set ?_ GE5.out) | exact HB.out)⟩; clear HO1 BK3 BK5 HB; (try clear hcz57_0 hcz57_1 hfz57_0 hfz57_1); generalize ((w55.setCell ⟨gb5, 0, none⟩ (.int .i64 t2)).setCell ⟨gb5, 1, none⟩ (.int .i64 t3)) = w58 at n0_ n1_ n2_ n3_ ⊢; have HO1 := n0_; have BK3 := n1_; have BK5 := n2_; have HB := n3_; clear n0_ n1_ n2_ n3_; refine cut4_ (Kd.R_drew HO1.out) (blk_drew BK3.out) (blk_drew BK5.out) (below_drew1 HB.out) ?_; clear HO1 BK3 BK5 HB; intro HO1 BK3 BK5 HB; refine start_ (n := 3) (S := fun w' => w'.cell? ⟨gb5, 0, none⟩ = some (.int .i64 t2) ∧ w'.cell? ⟨gb5, 1, none⟩ = some (.int .i64 t3)) (ds := []) #[false, false, false] (by kernel_rfl) rfl rfl ⟨ce_ BK5.out 0, ce_ BK5.out 1⟩ (fun hHeld => ?_); generalize w58.drew = w59 at HO1 BK3 BK5 HB hHeld ⊢; refine pr_ (i := 1) (N := some 2) #[false, true, false] (by kernel_rfl) ?_; refine take_ (i := 0) (N := some 16) (v := ?_) (a' := ?_) #[true, true, false] rfl rfl (by kernel_rfl) (fun _ _ _ h => h) (Or.inl ⟨by rfl, ?_⟩) hHeld ?_ ?_; rotate_left
  ·
   rintro w' ⟨s0, s1⟩; go_simp
   with_reducible rfl
  rotate_left
  ·
   simp only [Act.put, List.setIfInBounds_toArray, List.set_cons_zero, List.set_cons_succ, i64_w, i32_w]
   rfl
  refine one_ (i := 2) (N := none) #[true, true, true] rfl rfl (by kernel_rfl) (by decide) (fun K hK => ?_); have hs60 : w59.cell? ⟨gb3, 0, none⟩ = some (.int .i64 0) := (blk_cell BK3.out 0).trans rfl; have hfs60 := blk_frozen BK3.out 0; have hns60_1 := NB5_3.out; have hms60_1 := NB3_5.out; have hs61 : w59.cell? ⟨gb3, 1, none⟩ = some (.int .i64 0) := (blk_cell BK3.out 1).trans rfl; have hfs61 := blk_frozen BK3.out 1; refine sk_ ?_; refine hK.out _ _ ⟨(cf2_ gb3 NB5_3.out hHeld.1), (cf2_ gb3 NB5_3.out hHeld.2)⟩ (fun hHeld => ?_); clear hK K; refine done_ (by kernel_rfl) ?_
  try go_wp2
  refine bodyPost_ret (results_tc rfl _ _ gb3 40 #[.int .i64 t2, .int .i64 t3] (0, 0) _ rfl (by exact put2_ (bk_ BK3.out)) Tryz.underlying40 rfl (by kernel_rfl)) rfl ?_; exact ⟨_, er_, by exact Kd.R_nil _ _ _ _ _, bl2_ HB.out GE3.out GE5.out⟩
 have c3b0 := beq_iff_eq.mpr c3; have c3b1 := bne_eq_false_iff_eq.mpr c3; clear c3; replace H := bn_ H; obtain ⟨⟨e1, e2, e3, e4⟩, A3, H⟩ := H; (try dsimp only at H); replace H := sp_ H; obtain ⟨c4, H⟩ | ⟨c4, H⟩ := H
 ·
  have c4b0 := beq_iff_eq.mpr c4; have c4b1 := bne_eq_false_iff_eq.mpr c4; clear c4; simp only [Option.some.injEq, Prod.mk.injEq] at H; obtain ⟨rfl, rfl, rfl⟩ := H
  go_enter Tryz.func37, Tryz.ntmps37
  try go_wp2_with (first | ((with_reducible refine gate_dst (N := 3) rfl ?_); refine bx_ (N := 3) (cs := #[.int .i64 0, .int .i64 0]) (t := 40) ?_; intro gb3 hg w4 hbox hb; have n0_ := Aside0.mk (below_step (bl_ HB.out) hb); have n1_ := Aside0.mk (hbox); have n3_ := Aside0.mk (bz_ (w := w) hg (bl_ HB.out)); clear HB; have HB := n0_; have BK3 := n1_; have GE3 := n3_; clear n0_ n1_ n3_; clear hb hbox hg) | ((with_reducible refine gate_callee (f := 52) rfl ?_); refine gk_ (some 10) Tryz.func52 (lexer_Lex.calls k a0 t1 t2 t3 _ A2.out) ?_; rintro e w5 ⟨v1, rfl, ho0, hb⟩; refine ⟨_, rfl, ?_⟩; refine cut3_ (Kd.R_lower ho0 (below_size (bl1_ HB.out GE3.out))) (bb_ BK3.out hb) (below_step (bl1_ HB.out GE3.out) hb) ?_; clear BK3 HB; intro HO1 BK3 HB; (try clear hb); (try clear ho0)) | ((with_reducible refine gate_dst (N := 5) rfl ?_); refine bx_ (N := 5) (cs := #[.int .i64 0, .int .i64 0]) (t := 40) ?_; intro gb5 hg w55 hbox hb; have n0_ := Aside0.mk (Kd.R_below (rR_ HO1.out) hb); have n1_ := Aside0.mk (bb_ BK3.out hb); have n2_ := Aside0.mk (below_step (bl1_ HB.out GE3.out) hb); have n3_ := Aside0.mk (hbox); have n5_ := Aside0.mk (bz_ (w := w) hg (bl1_ HB.out GE3.out)); have n6_ := Aside0.mk (nl_ hg BK3.out); have n7_ := Aside0.mk (ng_ hg BK3.out); clear HO1; clear BK3; clear HB; have HO1 := n0_; have BK3 := n1_; have HB := n2_; have BK5 := n3_; have GE5 := n5_; have NB3_5 := n6_; have NB5_3 := n7_; clear n0_ n1_ n2_ n3_ n5_ n6_ n7_; clear hb hbox hg; have hnb56 := NB5_3.out; have hnc56 := NB3_5.out; obtain ⟨hcz57_0, hcz57_1, hfz57_0, hfz57_1⟩ := cq2_ BK5.out) | ((with_reducible refine gate_store (t := 40) (p := 5) rfl ?_); refine st_ (t := 40) (p := 5) (w1 := ((w55.setCell ⟨gb5, 0, none⟩ (.int .i64 t2)).setCell ⟨gb5, 1, none⟩ (.int .i64 t3))) ?_; intro w58 hw; have n0_ := Aside0.mk ((by rw [hw]; exact Kd.R_mono (rf2_ gb5 (Kd.R_types HO1.out BK5.out (by decide))) (fun _ hk => trivial) : Kd.R k46 50 w58 w.heap.size (fun _ => True) v1 t1)); have n1_ : Aside0 (w58.heap[gb3]? = some (.cells #[.int .i64 0, .int .i64 0] 40 (0, 0))) := ⟨by rw [hw]; refine far2_ ?_ NB3_5.out; exact BK3.out⟩; have n2_ : Aside0 (w58.heap[gb5]? = some (.cells #[.int .i64 t2, .int .i64 t3] 40 (0, 0))) := ⟨by rw [hw]; refine blk_put (cs := #[.int .i64 t2, .int .i64 0]) ?_ 1 _ rfl; refine blk_put (cs := #[.int .i64 0, .int .i64 0]) ?_ 0 _ rfl; exact BK5.out⟩; have n3_ : Aside0 (Below w.heap.size w w58) := ⟨by rw [hw]; repeat (first | (with_reducible first | exact HB.out | refine below_set ?_ GE3.out | refine below_set ?_ GE5.out) | exact HB.out)⟩; clear hw; clear HO1 BK3 BK5 HB; (try clear hcz57_0 hcz57_1 hfz57_0 hfz57_1); have HO1 := n0_; have BK3 := n1_; have BK5 := n2_; have HB := n3_; clear n0_ n1_ n2_ n3_; have hl5_0 : w58.cell? ⟨gb5, 0, none⟩ = some (.int .i64 t2) := (blk_cell BK5.out 0).trans rfl; have hl5_1 : w58.cell? ⟨gb5, 1, none⟩ = some (.int .i64 t3) := (blk_cell BK5.out 1).trans rfl; obtain ⟨Ao, co, eo⟩ := Kd.R_slice HO1.out; subst eo; have HC := Aside0.mk (Kd.R_reads' HO1.out).2.2; have HB58 := HB) | ((with_reducible refine gate_dst (N := 19) rfl ?_); refine bx_ (N := 19) (cs := #[.slice Ao t1.length co, .int .i64 0, .int .i64 0, .int .i64 0]) (t := 82) ?_; intro g hg w60 hbox hb; have n1_ := Aside0.mk (blk_below (g := gb3) (o := .cells #[.int .i64 0, .int .i64 0] 40 (0, 0)) BK3.out hb); have n2_ := Aside0.mk (below_step HB.out hb); have n3_ : Aside0 (IsS69 w58 w60 g t1 0 0 0) := ⟨⟨Ao, co, hbox, Nat.le_of_eq hg.symm, HC.out⟩⟩; have n4_ : Aside0 (Below w58.heap.size w58 w60) := ⟨hb⟩; have n5_ : Aside0 (w.heap.size ≤ g) := ⟨by rw [hg]; exact below_size HB.out⟩; have n6_ : Aside0 (g ≠ gb3) := ⟨by rw [hg]; exact Nat.ne_of_gt (blk_lt BK3.out)⟩; clear BK3 HB; have BK3 := n1_; have HB := n2_; have HI := n3_; have HB0 := n4_; have GEg := n5_; have NBg_3 := n6_; clear n1_ n2_ n3_ n4_ n5_ n6_; clear hb hbox hg) | ((with_reducible refine gate_callee (f := 53) rfl ?_); refine gk_ (some 21) Tryz.func53 (parser_entries.calls k g t1 0 0 0 0 e1 e2 e3 e4 w58 _ HI.out HB0.out A3.out) ?_; rintro e w61 ⟨v2, rfl, ho0, hi, hb2, hk⟩; refine ⟨_, rfl, ?_⟩; have n0_ := Aside0.mk (Kd.R_lower ho0 (below_size HB.out)); have n1_ := Aside0.mk (KeepBut.blk hk (g' := gb3) (o := .cells #[.int .i64 0, .int .i64 0] 40 (0, 0)) BK3.out NBg_3.out.symm (by simp)); have n2_ := Aside0.mk (below_step HB58.out hb2); have n3_ := Aside0.mk hi; clear BK3 HB HI HB0; have HO2 := n0_; have BK3 := n1_; have HB := n2_; have HI := n3_; clear n0_ n1_ n2_ n3_; obtain ⟨Aq, cq, hgq, hleq, hCq⟩ := HI.out; have hcq_2 : w61.cell? ⟨g, 2, none⟩ = some (.int .i64 e3) := cellS69_2 hgq; have hcq_3 : w61.cell? ⟨g, 3, none⟩ = some (.int .i64 e4) := cellS69_3 hgq; have hcb_0 : w61.cell? ⟨gb3, 0, none⟩ = some (.int .i64 0) := (blk_cell BK3.out 0).trans rfl; have hcb_1 : w61.cell? ⟨gb3, 1, none⟩ = some (.int .i64 0) := (blk_cell BK3.out 1).trans rfl; have hfb_0 := blk_frozen BK3.out 0; have hfb_1 := blk_frozen BK3.out 1; clear hgq hleq hCq ho0 hi hb2 hk))
  refine bodyPost_ret (results_tc rfl _ _ gb3 40 #[.int .i64 0, .int .i64 0] (0, 0) _ rfl (by exact put2_ (bk_ BK3.out)) Tryz.underlying40 rfl (by kernel_rfl)) rfl ?_; exact ⟨_, er_, by exact Kd.R_mono (rf2_ gb3 (Kd.R_types HO2.out BK3.out (by decide))) (fun _ hk => trivial), bl1_ HB.out GE3.out⟩
 have c4b0 := beq_eq_false_iff_ne.mpr c4; have c4b1 := bne_iff_ne.mpr c4; simp only [Option.some.injEq, Prod.mk.injEq] at H; obtain ⟨rfl, rfl, rfl⟩ := H
 go_enter Tryz.func37, Tryz.ntmps37
 try go_wp2_with (first | ((with_reducible refine gate_dst (N := 3) rfl ?_); refine bx_ (N := 3) (cs := #[.int .i64 0, .int .i64 0]) (t := 40) ?_; intro gb3 hg w4 hbox hb; have n0_ := Aside0.mk (below_step (bl_ HB.out) hb); have n1_ := Aside0.mk (hbox); have n3_ := Aside0.mk (bz_ (w := w) hg (bl_ HB.out)); clear HB; have HB := n0_; have BK3 := n1_; have GE3 := n3_; clear n0_ n1_ n3_; clear hb hbox hg) | ((with_reducible refine gate_callee (f := 52) rfl ?_); refine gk_ (some 10) Tryz.func52 (lexer_Lex.calls k a0 t1 t2 t3 _ A2.out) ?_; rintro e w5 ⟨v1, rfl, ho0, hb⟩; refine ⟨_, rfl, ?_⟩; refine cut3_ (Kd.R_lower ho0 (below_size (bl1_ HB.out GE3.out))) (bb_ BK3.out hb) (below_step (bl1_ HB.out GE3.out) hb) ?_; clear BK3 HB; intro HO1 BK3 HB; (try clear hb); (try clear ho0)) | ((with_reducible refine gate_dst (N := 5) rfl ?_); refine bx_ (N := 5) (cs := #[.int .i64 0, .int .i64 0]) (t := 40) ?_; intro gb5 hg w55 hbox hb; have n0_ := Aside0.mk (Kd.R_below (rR_ HO1.out) hb); have n1_ := Aside0.mk (bb_ BK3.out hb); have n2_ := Aside0.mk (below_step (bl1_ HB.out GE3.out) hb); have n3_ := Aside0.mk (hbox); have n5_ := Aside0.mk (bz_ (w := w) hg (bl1_ HB.out GE3.out)); have n6_ := Aside0.mk (nl_ hg BK3.out); have n7_ := Aside0.mk (ng_ hg BK3.out); clear HO1; clear BK3; clear HB; have HO1 := n0_; have BK3 := n1_; have HB := n2_; have BK5 := n3_; have GE5 := n5_; have NB3_5 := n6_; have NB5_3 := n7_; clear n0_ n1_ n2_ n3_ n5_ n6_ n7_; clear hb hbox hg; have hnb56 := NB5_3.out; have hnc56 := NB3_5.out; obtain ⟨hcz57_0, hcz57_1, hfz57_0, hfz57_1⟩ := cq2_ BK5.out) | ((with_reducible refine gate_store (t := 40) (p := 5) rfl ?_); refine st_ (t := 40) (p := 5) (w1 := ((w55.setCell ⟨gb5, 0, none⟩ (.int .i64 t2)).setCell ⟨gb5, 1, none⟩ (.int .i64 t3))) ?_; intro w58 hw; have n0_ := Aside0.mk ((by rw [hw]; exact Kd.R_mono (rf2_ gb5 (Kd.R_types HO1.out BK5.out (by decide))) (fun _ hk => trivial) : Kd.R k46 50 w58 w.heap.size (fun _ => True) v1 t1)); have n1_ : Aside0 (w58.heap[gb3]? = some (.cells #[.int .i64 0, .int .i64 0] 40 (0, 0))) := ⟨by rw [hw]; refine far2_ ?_ NB3_5.out; exact BK3.out⟩; have n2_ : Aside0 (w58.heap[gb5]? = some (.cells #[.int .i64 t2, .int .i64 t3] 40 (0, 0))) := ⟨by rw [hw]; refine blk_put (cs := #[.int .i64 t2, .int .i64 0]) ?_ 1 _ rfl; refine blk_put (cs := #[.int .i64 0, .int .i64 0]) ?_ 0 _ rfl; exact BK5.out⟩; have n3_ : Aside0 (Below w.heap.size w w58) := ⟨by rw [hw]; repeat (first | (with_reducible first | exact HB.out | refine below_set ?_ GE3.out | refine below_set ?_ GE5.out) | exact HB.out)⟩; clear hw; clear HO1 BK3 BK5 HB; (try clear hcz57_0 hcz57_1 hfz57_0 hfz57_1); have HO1 := n0_; have BK3 := n1_; have BK5 := n2_; have HB := n3_; clear n0_ n1_ n2_ n3_; have hl5_0 : w58.cell? ⟨gb5, 0, none⟩ = some (.int .i64 t2) := (blk_cell BK5.out 0).trans rfl; have hl5_1 : w58.cell? ⟨gb5, 1, none⟩ = some (.int .i64 t3) := (blk_cell BK5.out 1).trans rfl; obtain ⟨Ao, co, eo⟩ := Kd.R_slice HO1.out; subst eo; have HC := Aside0.mk (Kd.R_reads' HO1.out).2.2; have HB58 := HB) | ((with_reducible refine gate_dst (N := 19) rfl ?_); refine bx_ (N := 19) (cs := #[.slice Ao t1.length co, .int .i64 0, .int .i64 0, .int .i64 0]) (t := 82) ?_; intro g hg w60 hbox hb; have n1_ := Aside0.mk (blk_below (g := gb3) (o := .cells #[.int .i64 0, .int .i64 0] 40 (0, 0)) BK3.out hb); have n2_ := Aside0.mk (below_step HB.out hb); have n3_ : Aside0 (IsS69 w58 w60 g t1 0 0 0) := ⟨⟨Ao, co, hbox, Nat.le_of_eq hg.symm, HC.out⟩⟩; have n4_ : Aside0 (Below w58.heap.size w58 w60) := ⟨hb⟩; have n5_ : Aside0 (w.heap.size ≤ g) := ⟨by rw [hg]; exact below_size HB.out⟩; have n6_ : Aside0 (g ≠ gb3) := ⟨by rw [hg]; exact Nat.ne_of_gt (blk_lt BK3.out)⟩; clear BK3 HB; have BK3 := n1_; have HB := n2_; have HI := n3_; have HB0 := n4_; have GEg := n5_; have NBg_3 := n6_; clear n1_ n2_ n3_ n4_ n5_ n6_; clear hb hbox hg) | ((with_reducible refine gate_callee (f := 53) rfl ?_); refine gk_ (some 21) Tryz.func53 (parser_entries.calls k g t1 0 0 0 0 e1 e2 e3 e4 w58 _ HI.out HB0.out A3.out) ?_; rintro e w61 ⟨v2, rfl, ho0, hi, hb2, hk⟩; refine ⟨_, rfl, ?_⟩; have n0_ := Aside0.mk (Kd.R_lower ho0 (below_size HB.out)); have n1_ := Aside0.mk (KeepBut.blk hk (g' := gb3) (o := .cells #[.int .i64 0, .int .i64 0] 40 (0, 0)) BK3.out NBg_3.out.symm (by simp)); have n2_ := Aside0.mk (below_step HB58.out hb2); have n3_ := Aside0.mk hi; clear BK3 HB HI HB0; have HO2 := n0_; have BK3 := n1_; have HB := n2_; have HI := n3_; clear n0_ n1_ n2_ n3_; obtain ⟨Aq, cq, hgq, hleq, hCq⟩ := HI.out; have hcq_2 : w61.cell? ⟨g, 2, none⟩ = some (.int .i64 e3) := cellS69_2 hgq; have hcq_3 : w61.cell? ⟨g, 3, none⟩ = some (.int .i64 e4) := cellS69_3 hgq; have hcb_0 : w61.cell? ⟨gb3, 0, none⟩ = some (.int .i64 0) := (blk_cell BK3.out 0).trans rfl; have hcb_1 : w61.cell? ⟨gb3, 1, none⟩ = some (.int .i64 0) := (blk_cell BK3.out 1).trans rfl; have hfb_0 := blk_frozen BK3.out 0; have hfb_1 := blk_frozen BK3.out 1; clear hgq hleq hCq ho0 hi hb2 hk))
 refine cut3_ (blk_drew BK3.out) (IsS69.drew HI.out) (below_drew1 HB.out) ?_; clear BK3 HI HB hcq_2 hcq_3 hcb_0 hcb_1 hfb_0 hfb_1; intro BK3 HI HB; obtain ⟨Aq, cq, hgq, hleq, hCq⟩ := HI.out; refine start_ (n := 6) (S := fun w' => w'.cell? ⟨g, 2, none⟩ = some (.int .i64 e3) ∧ w'.cell? ⟨g, 3, none⟩ = some (.int .i64 e4)) (ds := []) (bm_ 6 0) (by kernel_rfl) rfl (by kernel_rfl) ⟨cellS69_2 hgq, cellS69_3 hgq⟩ (fun hHeld => ?_); clear hgq hleq hCq; generalize w61.drew = w62 at BK3 HI HB hHeld ⊢; refine pr_ (i := 4) (N := some 2) (bm_ 6 16) (by kernel_rfl) ?_; refine pr_ (i := 0) (N := some 28) (bm_ 6 17) (by kernel_rfl) ?_; refine pr_ (i := 1) (N := some 29) (bm_ 6 19) (by kernel_rfl) ?_; refine pr_ (i := 2) (N := some 30) (bm_ 6 23) (by kernel_rfl) ?_; refine take_ (i := 3) (N := some 31) (v := ?_) (a' := ?_) (bm_ 6 31) rfl rfl (by kernel_rfl) (fun _ _ _ h => h) (Or.inl ⟨by rfl, ?_⟩) hHeld ?_ ?_; rotate_left
 ·
  rintro w' ⟨s0, s1⟩; go_simp
  with_reducible rfl
 rotate_left
 ·
  simp only [Act.put, List.setIfInBounds_toArray, List.set_cons_zero, List.set_cons_succ, i64_w, i32_w]
  rfl
 refine one_ (i := 5) (N := none) (bm_ 6 63) rfl rfl (by kernel_rfl) (by decide) (fun K hK => ?_); obtain ⟨hs60, hs61, hfs60, hfs61⟩ := cq2_ BK3.out; refine sk_ ?_; refine hK.out _ _ ⟨(cf2_ gb3 NBg_3.out hHeld.1), (cf2_ gb3 NBg_3.out hHeld.2)⟩ (fun hHeld => ?_); clear hK K; refine done_ (by kernel_rfl) ?_
 try go_wp2
 refine bodyPost_ret (results_tc rfl _ _ gb3 40 #[.int .i64 e3, .int .i64 e4] (0, 0) _ rfl (by exact put2_ (bk_ BK3.out)) Tryz.underlying40 rfl (by kernel_rfl)) rfl ?_; exact ⟨_, er_, by exact Kd.R_nil _ _ _ _ _, bl1_ HB.out GE3.out⟩
end Go.Proofs.YtkifdadhojbohaaGreatDoor.Pr
namespace Go.Proofs.YtkifdadhojbohaaGreatDoor.Pu
open Go.RowKit Go.Proofs.YtkifdadhojbohaaGreatDoor Go.Proofs.YtkifdadhojbohaaGreatDoor.Pr Go.Proofs.YtkifdadhojbohaaGreatDoorW.PrintWords Go.Proofs.YtkifdadhojbohaaGreatDoorW.PrintLast Go.Proofs.YtkifdadhojbohaaGreatDoorW.PrintMore
theorem lexL_err : ∀ (f : Nat) (l : List UInt8) (e : Int × Nat), lexL f l = .error e → e.2 ≤ l.length := by
  intro f
  induction f with
  | zero => intro l e h; simp [lexL] at h
  | succ f ih =>
    intro l e h
    have hsk := (skipL_suffix l false).length_le
    simp only [lexL] at h
    by_cases hc : (tokL (skipL false l)).code = 0
    · rw [if_neg (by simp [hc])] at h
      by_cases h0 : skipL false l = []
      · rw [if_pos h0] at h; cases h
      · rw [if_neg h0] at h
        obtain ⟨h1, h2⟩ := tok_suffix (skipL false l) hc
        obtain ⟨h3, h4⟩ := h2 h0
        split at h
        · rename_i x hx
          have := ih _ _ hx
          cases h
          omega
        · cases h
    · rw [if_pos hc] at h
      cases h
      exact hsk
theorem lexL_code : ∀ (f : Nat) (l : List UInt8) (e : Int × Nat), lexL f l = .error e → e.1 ≠ 0 := by
  intro f
  induction f with
  | zero => intro l e h; simp [lexL] at h
  | succ f ih =>
    intro l e h
    simp only [lexL] at h
    by_cases hc : (tokL (skipL false l)).code = 0
    · have hc2 : ¬ (tokL (skipL false l)).code ≠ 0 := by simp [hc]
      rw [if_neg hc2] at h
      by_cases h0 : skipL false l = []
      · rw [if_pos h0] at h; cases h
      · rw [if_neg h0] at h
        split at h
        · rename_i x hx
          have := ih _ _ hx
          cases h
          exact this
        · cases h
    · rw [if_pos (show (tokL (skipL false l)).code ≠ 0 from hc)] at h
      cases h
      exact hc
abbrev endT : Tok := ⟨5, [], 0, 0⟩
theorem all_tw {α : Type} (p : α → Bool) (l : List α) : (l.takeWhile p).all p = true := List.all_takeWhile
theorem tok_valid (l : List UInt8) (hc : (tokL l).code = 0) (hne : l ≠ []) : validB (tokL l).kind (tokL l).text (tokL l).n = true ∧ (tokL l).kind ≠ 5 ∧ (spellS (tokL l).kind (tokL l).text (tokL l).n).length + (tokL l).rest.length ≤ l.length + 12 := by
  cases l with
  | nil => exact absurd rfl hne
  | cons c l =>
    by_cases hr : isRunB c = true
    · have e : tokL (c :: l) = clsL (c :: l.takeWhile isRunB) (l.dropWhile isRunB) := by
        unfold tokL; dsimp only; rw [if_pos hr]
      have hlen : (l.takeWhile isRunB).length + (l.dropWhile isRunB).length = l.length := by
        rw [← List.length_append, List.takeWhile_append_dropWhile]
      rw [e] at hc ⊢
      have hall : (c :: l.takeWhile isRunB).all isRunB = true := by rw [List.all_cons, hr, all_tw]; rfl
      unfold clsL at hc ⊢
      by_cases h2 : (numL (c :: l.takeWhile isRunB)).2 = 2
      · rw [if_pos h2] at hc ⊢
        dsimp only at hc ⊢
        refine ⟨?_, by decide, ?_⟩
        · unfold validB
          rw [if_neg (by rintro ⟨_, h⟩; exact h rfl), if_pos rfl, hall, hc]; rfl
        · have : spellS 1 (c :: l.takeWhile isRunB) 0 = c :: l.takeWhile isRunB := by simp [spellS]
          rw [this, List.length_cons, List.length_cons]; omega
      · rw [if_neg h2] at hc ⊢
        dsimp only at hc ⊢
        have hn : 0 ≤ (numL (c :: l.takeWhile isRunB)).1 ∧ (numL (c :: l.takeWhile isRunB)).1 ≤ 1000000000 := by
          revert hc h2
          unfold numL
          dsimp only
          (repeat' split) <;> intro hc h2
          · exact absurd hc (by decide)
          · exact absurd hc (by decide)
          · exact absurd hc (by decide)
          · exact absurd hc (by decide)
          · dsimp only; omega
        refine ⟨?_, by decide, ?_⟩
        · unfold validB
          rw [if_neg (by rintro ⟨h, _⟩; exact h rfl), if_neg (by decide), if_pos rfl]
          simp [hn.1, hn.2]
        · have : spellS 2 [] (numL (c :: l.takeWhile isRunB)).1 = numS (numL (c :: l.takeWhile isRunB)).1.toNat := by
            unfold spellS
            rw [if_neg (by decide), if_pos rfl, if_pos hn]
          have hl := numS_len (numL (c :: l.takeWhile isRunB)).1.toNat (by omega)
          rw [this, List.length_cons]; omega
    · by_cases h34 : c.toNat = 34
      · have e : tokL (c :: l) = textL l := by
          unfold tokL; dsimp only; rw [if_neg hr, if_pos h34]
        rw [e] at hc ⊢
        unfold textL at hc ⊢
        have hlen : (l.takeWhile inStr).length + (l.dropWhile inStr).length = l.length := by
          rw [← List.length_append, List.takeWhile_append_dropWhile]
        cases hd : l.dropWhile inStr with
        | nil => rw [hd] at hc; cases hc
        | cons x r =>
          rw [hd] at hc hlen
          dsimp only at hc ⊢
          by_cases hx : x.toNat = 34
          · rw [if_pos hx] at hc ⊢
            dsimp only at hc ⊢
            refine ⟨?_, by decide, ?_⟩
            · unfold validB
              rw [if_neg (by rintro ⟨_, h⟩; exact h rfl), if_neg (by decide), if_neg (by decide), if_pos rfl, hc]; rfl
            · have : spellS 3 (l.takeWhile inStr) 0 = 34 :: l.takeWhile inStr ++ [34] := by simp [spellS]
              rw [this]
              simp only [List.length_append, List.length_cons, List.length_nil] at hlen ⊢
              omega
          · rw [if_neg hx] at hc; cases hc
      · by_cases h5 : kindOf c.toNat = 5
        · have e : tokL (c :: l) = ⟨4, [c], 0, l, 0⟩ := by
            unfold tokL; dsimp only; rw [if_neg hr, if_neg h34, if_pos h5]
          rw [e]
          dsimp only
          refine ⟨?_, by decide, ?_⟩
          · unfold validB
            rw [if_neg (by rintro ⟨_, h⟩; exact h rfl), if_neg (by decide), if_neg (by decide), if_neg (by decide), if_pos rfl]
            simp [h5]
          · have : spellS 4 [c] 0 = [c] := by simp [spellS]
            rw [this]; simp; omega
        · have e : tokL (c :: l) = ⟨0, [], 0, [], 2⟩ := by
            unfold tokL; dsimp only; rw [if_neg hr, if_neg h34, if_neg h5]
          rw [e] at hc; cases hc
theorem lex_good : ∀ (f : Nat) (l : List UInt8) (ts : List Tok), l.length < f → lexL f l = .ok ts →
    ∃ us : List Tok, ts = us ++ [endT] ∧ (∀ u ∈ us, validB u.kind u.text u.n = true ∧ u.kind ≠ 5 ∧ 0 < u.rem ∧ u.rem ≤ l.length ∧ u.text.length ≤ l.length) ∧ us.Pairwise (fun a b => b.rem < a.rem) ∧ us.length ≤ l.length ∧
      (us.map fun u => (spellS u.kind u.text u.n).length).sum ≤ l.length + 12 * us.length := by
  intro f
  induction f with
  | zero => intro l ts hf; omega
  | succ f ih =>
    intro l ts hf hx
    have hsk := (skipL_suffix l false).length_le
    simp only [lexL] at hx
    by_cases hc : (tokL (skipL false l)).code = 0
    · have hc2 : ¬ (tokL (skipL false l)).code ≠ 0 := by simp [hc]
      rw [if_neg hc2] at hx
      by_cases h0 : skipL false l = []
      · rw [if_pos h0] at hx
        cases hx
        exact ⟨[], rfl, by simp, by simp, by simp, by simp⟩
      · rw [if_neg h0] at hx
        obtain ⟨h1, h2⟩ := tok_suffix (skipL false l) hc
        obtain ⟨h3, h4⟩ := h2 h0
        obtain ⟨v1, v2, v3⟩ := tok_valid (skipL false l) hc h0
        generalize skipL false l = m at hsk h0 hx h1 h3 h4 v1 v2 v3 hc
        cases hy : lexL f (tokL m).rest with
        | error e => rw [hy] at hx; cases hx
        | ok ws =>
          rw [hy] at hx
          cases hx
          obtain ⟨us, rfl, g1, g2, g3, g4⟩ := ih _ _ (by omega) hy
          have htl : (tokL m).text.length ≤ m.length := by
            have := reads_of_valid v1 v2
            cases m with
            | nil => exact absurd rfl h0
            | cons c r =>
              unfold tokL
              dsimp only
              have hle1 : (r.takeWhile isRunB).length ≤ r.length := (List.takeWhile_prefix _).length_le
              have hle2 : (r.takeWhile inStr).length ≤ r.length := (List.takeWhile_prefix _).length_le
              (repeat' split)
              · unfold clsL; split <;> simp <;> omega
              · unfold textL
                split
                · simp
                · split <;> simp <;> omega
              · simp
              · simp
          refine ⟨⟨(tokL m).kind, (tokL m).text, (tokL m).n, m.length⟩ :: us, rfl, ?_, ?_, ?_, ?_⟩
          · intro u hu
            rcases List.mem_cons.1 hu with rfl | hu
            · exact ⟨v1, v2, List.length_pos_iff.2 h0, hsk, by dsimp only; omega⟩
            · obtain ⟨a1, a2, a3, a4, a5⟩ := g1 u hu
              exact ⟨a1, a2, a3, by omega, by omega⟩
          · refine List.pairwise_cons.2 ⟨fun b hb => ?_, g2⟩
            have := (g1 b hb).2.2.2.1
            dsimp only; omega
          · simp only [List.length_cons]; omega
          · simp only [List.map_cons, List.sum_cons, List.length_cons]
            omega
    · rw [if_pos (show (tokL (skipL false l)).code ≠ 0 from hc)] at hx
      cases hx
abbrev endS (n : Nat) : S46 := Tok.at_ n ⟨5, [], 0, 0⟩
inductive PA (s : ByteArray) : List S41 × Int × Int → Prop
  | byte (e : Int × Nat) : lexL (s.size + 1) (lst s) = .error e → PA s ([], e.1, (s.size : Int) - e.2)
  | tok (us : List Tok) (e : Int × Int) : lexL (s.size + 1) (lst s) = .ok (us ++ [endT]) → RL 0 (us.map (Tok.at_ s.size) ++ [endS s.size]) (.error e) → PA s ([], e.1, e.2)
  | good (us : List Tok) (cs : List S41) : lexL (s.size + 1) (lst s) = .ok (us ++ [endT]) → RL 0 (us.map (Tok.at_ s.size) ++ [endS s.size]) (.ok (cs, [endS s.size])) → PA s (cs, 0, 0)
theorem toks_good (s : ByteArray) {us : List Tok} (h : lexL (s.size + 1) (lst s) = .ok (us ++ [endT])) :
    (∀ u ∈ us, validB u.kind u.text u.n = true ∧ u.kind ≠ 5 ∧ 0 < u.rem ∧ u.rem ≤ s.size ∧ u.text.length ≤ s.size) ∧ us.Pairwise (fun a b => b.rem < a.rem) ∧ us.length ≤ s.size := by
  obtain ⟨vs, e, g1, g2, g3, _⟩ := lex_good _ _ _ (by rw [lst_length]; omega) h
  obtain rfl : us = vs := List.append_cancel_right e
  rw [lst_length] at g1 g3
  exact ⟨g1, g2, g3⟩
theorem RL_end {z : S46} (hz : z.f0 = 5) {us : List S46} (hu : ∀ u ∈ us, u.f0 ≠ 5) : ∃ x, RL 0 (us ++ [z]) x ∧ ∀ cs r, x = .ok (cs, r) → r = [z] := by
  obtain ⟨x, h1, h2⟩ := RL.total z hz us.length 0 us (by omega) (by omega) hu
  refine ⟨x, h1, fun cs r hx => ?_⟩
  obtain ⟨q, rfl, _, hq⟩ := h2 cs r hx
  obtain ⟨t, r0, p, e1, _, e3, _⟩ := h1.frame _ _ hx
  cases q with
  | nil => rfl
  | cons a q =>
    simp at e1
    obtain ⟨rfl, _⟩ := e1
    simp [stopT] at e3
    exact absurd e3 (hq a (by simp))
theorem PA.ex (s : ByteArray) : ∃ y, PA s y := by
  cases hx : lexL (s.size + 1) (lst s) with
  | error e => exact ⟨_, PA.byte e hx⟩
  | ok ts =>
    obtain ⟨us, rfl, g1, g2, g3, _⟩ := lex_good _ _ _ (by rw [lst_length]; omega) hx
    obtain ⟨x, h1, h2⟩ := RL_end (z := endS s.size) rfl (us := us.map (Tok.at_ s.size)) (by
      intro u hu
      obtain ⟨v, hv, rfl⟩ := List.mem_map.1 hu
      exact (g1 v hv).2.1)
    cases x with
    | error e => exact ⟨_, PA.tok us e hx h1⟩
    | ok p =>
      obtain ⟨cs, r⟩ := p
      obtain rfl := h2 cs r rfl
      exact ⟨_, PA.good us cs hx h1⟩
theorem PA.code {s : ByteArray} {y : List S41 × Int × Int} (h : PA s y) : y.2.1 = 0 ∨ (y.2.1 ≠ 0 ∧ y.1 = []) := by
  cases h with
  | byte e h => exact .inr ⟨lexL_code _ _ _ h, rfl⟩
  | tok us e h h1 => exact .inr ⟨by have := h1.code _ rfl; show e.1 ≠ 0; omega, rfl⟩
  | good => exact .inl rfl
theorem lexed_len (s : ByteArray) {us : List Tok} (h : lexL (s.size + 1) (lst s) = .ok (us ++ [endT])) : (us.map (Tok.at_ s.size) ++ [endS s.size]).length ≤ s.size + 1 := by
  have := (toks_good s h).2.2
  simp; omega
theorem at_valid (s : ByteArray) (hs : s.size ≤ 900000) {us : List Tok} (h : lexL (s.size + 1) (lst s) = .ok (us ++ [endT])) : ∀ t ∈ us.map (Tok.at_ s.size) ++ [endS s.size], validB t.f0 (lst t.f1) t.f2 = true ∧ t.f1.size ≤ 900000 := by
  obtain ⟨g1, _⟩ := toks_good s h
  intro t ht
  rcases List.mem_append.1 ht with ht | ht
  · obtain ⟨u, hu, rfl⟩ := List.mem_map.1 ht
    obtain ⟨a, b, c, d, e⟩ := g1 u hu
    refine ⟨a, ?_⟩
    show (str u.text).size ≤ 900000
    rw [size_str]; omega
  · rw [List.mem_singleton] at ht
    subst ht
    exact ⟨rfl, by show (str []).size ≤ 900000; simp⟩
theorem PA.facts {s : ByteArray} (hs : s.size ≤ 200000) {cs : List S41} {a : Int} (h : PA s (cs, 0, a)) :
    ∃ us, lexL (s.size + 1) (lst s) = .ok (us ++ [endT]) ∧ RL 0 (us.map (Tok.at_ s.size) ++ [endS s.size]) (.ok (cs, [endS s.size])) ∧ szL cs ≤ s.size ∧ depL cs ≤ 8 ∧ (toksL cs).length = us.length ∧ formL cs = true ∧ AllC (txt 900000) cs ∧ chkL cs = 0 ∧ us.length ≤ s.size ∧ a = 0 := by
  generalize hy : (cs, (0 : Int), a) = y at h
  cases h with
  | byte e h => injection hy with _ h2; injection h2 with h2 _; exact absurd h2.symm (lexL_code _ _ _ h)
  | tok us e h h1 => injection hy with _ h2; injection h2 with h2 _; have := h1.code _ rfl; omega
  | good us cs' h h1 =>
    injection hy with e1 e2
    subst e1
    obtain ⟨f1, f2, f3⟩ := h1.facts (by omega) _ _ rfl
    obtain ⟨k1, k2⟩ := h1.form (at_valid s (by omega) h) _ _ rfl
    have hl := lexed_len s h
    simp at f1 f3 hl
    refine ⟨us, h, h1, by omega, by omega, by omega, k1, k2, ?_, by omega, by simpa using (Prod.mk.inj e2).2⟩
    unfold chkL
    rw [if_pos k1, if_neg (by omega)]
def Tok.up (d : Nat) (t : Tok) : Tok := ⟨t.kind, t.text, t.n, t.rem + d⟩
abbrev KTN := Int × List UInt8 × Int
def Tok.key (t : Tok) : KTN := (t.kind, t.text, t.n)
def gapB (g : List UInt8) : Prop := ∀ x, skipL false (g ++ x) = skipL false x
def k3 (t : S46) : KTN := (t.f0, lst t.f1, t.f2)
theorem RL.before {o : Nat} {ts : List S46} {x : Ans} (h : RL o ts x) : ∀ cs r, x = .ok (cs, r) → ∀ (w : Nat) (c : S41), cs[w]? = some c → ∃ p t q, ts = p ++ t :: q ∧ t.f0 = 1 ∧ t.f3 = c.f4 ∧ ∀ r' x', RL o r' x' → RL o (p ++ r') (pre (cs.take w) x') := by
  induction h with
  | stop => intro cs r hx w c hw; cases hx; simp at hw
  | bad => intro cs r hx; cases hx
  | semi o t ats u r x h1 h2 h3 hr ih =>
    intro cs q hx w c hw
    cases x with
    | error e => cases hx
    | ok y =>
      cases hx
      cases w with
      | zero =>
        simp at hw
        subst hw
        exact ⟨[], t, _, rfl, h1, rfl, fun r' x' hr' => by cases x' <;> simpa [pre] using hr'⟩
      | succ w =>
        obtain ⟨p, t', q', e, g1, g2, g3⟩ := ih _ _ rfl w c (by simpa using hw)
        refine ⟨t :: (ats ++ u :: p), t', q', by rw [e]; simp, g1, g2, fun r' x' hr' => ?_⟩
        have := RL.semi o t ats u _ _ h1 h2 h3 (g3 r' x' hr')
        simp only [List.cons_append, List.append_assoc]
        cases x' <;> simpa [pre, push] using this
  | syn => intro cs r hx; cases hx
  | lim => intro cs r hx; cases hx
  | blk o t ats u r ks b q x ho h1 h2 h3 hk hr ihk ih =>
    intro cs q' hx w c hw
    cases x with
    | error e => cases hx
    | ok y =>
      cases hx
      cases w with
      | zero =>
        simp at hw
        subst hw
        exact ⟨[], t, _, rfl, h1, rfl, fun r' x' hr' => by cases x' <;> simpa [pre] using hr'⟩
      | succ w =>
        obtain ⟨p, t', q2, e, g1, g2, g3⟩ := ih _ _ rfl w c (by simpa using hw)
        obtain ⟨b', q0, pk, f1, f2, f3, f4, f5⟩ := hk.frame _ _ rfl
        cases f1
        refine ⟨t :: (ats ++ u :: (pk ++ b :: p)), t', q2, by rw [f4, e]; simp, g1, g2, fun r' x' hr' => ?_⟩
        have hs := f5 (b :: (p ++ r')) _ (RL.stop (o + 1) b (p ++ r') f2 f3)
        have hs' : RL (o + 1) (pk ++ b :: (p ++ r')) (.ok (ks, b :: (p ++ r'))) := by simpa [pre] using hs
        have := RL.blk o t ats u _ ks b (p ++ r') _ ho h1 h2 h3 hs' (g3 r' x' hr')
        simp only [List.cons_append, List.append_assoc]
        cases x' <;> simpa [pre, push] using this
  | blkF => intro cs r hx; cases hx
theorem RL.place {o : Nat} {ts : List S46} {x : Ans} (h : RL o ts x) : ∀ e, x = .error e → ∃ t ∈ ts, e.2 = t.f3 := by
  induction h with
  | stop => intro e hx; cases hx
  | bad o t r => intro e hx; cases hx; exact ⟨t, by simp, rfl⟩
  | semi o t ats u r x h1 h2 h3 hr ih =>
    intro e hx
    cases x with
    | error e' =>
      cases hx
      obtain ⟨t', h, g⟩ := ih _ rfl
      exact ⟨t', by simp [h], g⟩
    | ok p => cases hx
  | syn o t ats u r => intro e hx; cases hx; exact ⟨u, by simp, rfl⟩
  | lim t ats u r => intro e hx; cases hx; exact ⟨u, by simp, rfl⟩
  | blk o t ats u r ks b q x ho h1 h2 h3 hk hr ihk ih =>
    intro e hx
    cases x with
    | error e' =>
      cases hx
      obtain ⟨t', h, g⟩ := ih _ rfl
      obtain ⟨b', q0, pk, f1, f2, f3, f4, f5⟩ := hk.frame _ _ rfl
      exact ⟨t', by rw [f4]; simp [h], g⟩
    | ok p => cases hx
  | blkF o t ats u r e ho h1 h2 h3 hk ih =>
    intro e' hx
    cases hx
    obtain ⟨t', h, g⟩ := ih _ rfl
    exact ⟨t', by simp [h], g⟩
theorem PA.at_ {s : ByteArray} {y : List S41 × Int × Int} (h : PA s y) (hc : y.2.1 ≠ 0) : 0 ≤ y.2.2 ∧ y.2.2 ≤ (s.size : Int) ∧ y.1 = [] := by
  cases h with
  | byte e h =>
    have := lexL_err _ _ _ h
    rw [lst_length] at this
    exact ⟨by show (0 : Int) ≤ (s.size : Int) - e.2; omega, by show (s.size : Int) - e.2 ≤ s.size; omega, rfl⟩
  | tok us e h h1 =>
    obtain ⟨t, ht, g⟩ := h1.place _ rfl
    obtain ⟨g1, _⟩ := toks_good s h
    have hb : 0 ≤ t.f3 ∧ t.f3 ≤ (s.size : Int) := by
      rcases List.mem_append.1 ht with ht | ht
      · obtain ⟨u, hu, rfl⟩ := List.mem_map.1 ht
        obtain ⟨_, _, c, d, _⟩ := g1 u hu
        show (0 : Int) ≤ (s.size : Int) - u.rem ∧ (s.size : Int) - u.rem ≤ s.size
        omega
      · rw [List.mem_singleton] at ht
        subst ht
        show (0 : Int) ≤ (s.size : Int) - (0 : Nat) ∧ (s.size : Int) - (0 : Nat) ≤ s.size
        omega
    exact ⟨by show 0 ≤ e.2; rw [g]; exact hb.1, by show e.2 ≤ _; rw [g]; exact hb.2, rfl⟩
  | good => exact absurd rfl hc
end Go.Proofs.YtkifdadhojbohaaGreatDoor.Pu
namespace Go.Proofs.YtkifdadhojbohaaGreatDoor.Pr
open Go.Proofs.YtkifdadhojbohaaGreatDoor
open Go.RowKit Go.Proofs.YtkifdadhojbohaaGreatDoorW.PrintWords Go.Proofs.YtkifdadhojbohaaGreatDoorW.PrintLast Go.Proofs.YtkifdadhojbohaaGreatDoorW.PrintMore
attribute [local go_sem] max2_int min2_int max_two min_two max_three min_three max_four min_four   -- for this text's walks alone
set_option linter.unusedVariables false
set_option linter.unusedSimpArgs false
def lexer_isWord.l0 : Nat → ByteArray → Int → Int → Option (Bool)
 | 0, _, _, _ => none
 | k + 1, x0, x5, x6 => if x6 < x5 then (if 0 ≤ x6 then (if x6 < (x0.size : Int) then ((lexer_isRun.f (bt x0 x6)).bind fun t182 => (if t182 = true then (lexer_isWord.l0 k x0 x5 (wrap64 (x6 + 1))) else (some false))) else (none)) else (none)) else ((lexer_word.f k x0).bind fun t183 => (some (t183 == 0)))
def lexer_isWord.f (k : Nat) (a0 : ByteArray) : Option (Bool) := lexer_isWord.l0 k a0 (a0.size : Int) 0
theorem lexer_isWord.mono_l : ∀ k, (∀ y0 y1 y2, LeO (lexer_isWord.l0 k y0 y1 y2) (lexer_isWord.l0 (k + 1) y0 y1 y2))
 | 0 => fun _ _ _ r h => by simp [lexer_isWord.l0] at h
 | k + 1 => by
  have ih0 := lexer_isWord.mono_l k
  ·
   intro y0 y1 y2
   unfold lexer_isWord.l0
   repeat' first
   | (with_reducible exact LeO.refl _)
   | exact ih0 _ _ _
   | exact lexer_word.mono _ _
   | exact LeO.none _
   | refine LeO.ite ?_ ?_
   | refine LeO.bind ?_ (fun _ => ?_)
theorem lexer_isWord.mono : ∀ a0 k, LeO (lexer_isWord.f k a0) (lexer_isWord.f (k + 1) a0) := by
 intro a0 k
 have ih0 := lexer_isWord.mono_l k
 unfold lexer_isWord.f
 repeat' first
   | (with_reducible exact LeO.refl _)
   | exact ih0 _ _ _
   | exact lexer_word.mono _ _
   | exact LeO.none _
   | refine LeO.ite ?_ ?_
   | refine LeO.bind ?_ (fun _ => ?_)
theorem lexer_isWord.calls (k : Nat) (a0 : ByteArray) (r : Bool) (w : World) (h : lexer_isWord.f k a0 = some r) :
  Calls Tryz.prog 70 #[.string a0] w fun e w' => e = .returned (.bool r) ∧ Below w.heap.size w w' := by
 have HB := Aside0.mk (Below.refl w.heap.size w); have H : (lexer_isWord.l0 k a0 (a0.size : Int) 0) = some r := h; clear h; have H' := Aside0.mk H; clear H
 go_enter Tryz.func70, Tryz.ntmps70
 go_wp2
 go_loopg [6] k (fun kq v6 w' => ∃ (x6_1 : Int), v6 = .int .i64 x6_1 ∧ Aside0 (lexer_isWord.l0 kq a0 (a0.size : Int) x6_1 = some r) ∧ Aside0 (kq ≤ k) ∧ Aside0 (Below w.heap.size w w'))
 case atStart => exact ⟨(0), sr_, H', ⟨Nat.le_refl _⟩, ⟨bl_ HB.out⟩⟩
 case round =>
  clear H'; obtain ⟨x6_1, rfl, HA, HK1, HB⟩ := hrel; obtain _ | k1 := gk
  · exact absurd HA.out (by simp [lexer_isWord.l0])
  have H := HA.out; clear HA; simp only [lexer_isWord.l0] at H; replace H := (sd_ H).symm; obtain ⟨c2b0, H⟩ | ⟨c2b0, H⟩ := H
  ·
   replace H := bn_ H; obtain ⟨t183, A10, H⟩ := H; (try dsimp only at H); obtain rfl := Option.some.inj H
   go_wp2_with (first | ((with_reducible refine gate_callee (f := 89) rfl ?_); refine gk_ (some 16) Tryz.func89 (lexer_word.calls k1 a0 t183 _ A10.out) ?_; rintro e w11 ⟨rfl, hb⟩; refine ⟨_, rfl, ?_⟩; refine cut1_ (below_step (bl_ HB.out) hb) ?_; clear hb HB; intro HB))
   go_ret
   exact ⟨er_, bl_ HB.out⟩
  replace H := gd_ H; obtain ⟨c3b0, H⟩ := H; replace H := gd_ H; obtain ⟨c4b0, H⟩ := H; replace H := bn_ H; obtain ⟨t182, A6, H⟩ := H; (try dsimp only at H); replace H := (sb_ H).symm; obtain ⟨rfl, H⟩ | ⟨rfl, H⟩ := H
  ·
   obtain rfl := Option.some.inj H; have p5 : (0 ≤ (x6_1 : Int)) = True := dT_; have q5 : (x6_1 < (a0.size : Int)) = True := dT_; have hx5 := bt_at a0 x6_1
   go_wp2_with (first | ((with_reducible refine gate_callee (f := 86) rfl ?_); refine gk_ (some 12) Tryz.func86 (lexer_isRun.calls (bt a0 x6_1) false _ A6.out) ?_; rintro e w9 ⟨rfl, hb⟩; refine ⟨_, rfl, ?_⟩; refine cut1_ (below_step (bl_ HB.out) hb) ?_; clear hb HB; intro HB))
   go_ret
   exact ⟨er_, bl_ HB.out⟩
  have H' := Aside0.mk H; clear H; have p5 : (0 ≤ (x6_1 : Int)) = True := dT_; have q5 : (x6_1 < (a0.size : Int)) = True := dT_; have hx5 := bt_at a0 x6_1
  go_wp2_with (first | ((with_reducible refine gate_callee (f := 86) rfl ?_); refine gk_ (some 12) Tryz.func86 (lexer_isRun.calls (bt a0 x6_1) true _ A6.out) ?_; rintro e w8 ⟨rfl, hb⟩; refine ⟨_, rfl, ?_⟩; refine cut1_ (below_step (bl_ HB.out) hb) ?_; clear hb HB; intro HB))
  go_roundg k1
  case measure => have := HK1.out; omega
  case rel => exact ⟨(wrap64 (x6_1 + 1)), sr_, H', ⟨om_ HK1.out⟩, ⟨bl_ HB.out⟩⟩
def lexer_Valid.j0 : Nat → Bool → Int → ByteArray → Int → Int → Option (Bool)
 | 0, _, _, _, _, _ => none
 | k + 1, x10, x185000, x185001, x185002, x185003 => if x10 = true then (some false) else (if x185000 = 1 then (if x185001.toList = ([] : List UInt8) then (some false) else ((lexer_isWord.f k x185001).bind fun t185 => (some t185))) else (if x185000 = 2 then (if x185001.toList = ([] : List UInt8) then (if 0 ≤ x185002 then (some (decide (x185002 ≤ 1000000000))) else (some false)) else (some false)) else (if x185000 = 3 then ((lexer_title.f k x185001).bind fun t186 => (some (t186 == 0))) else (if x185000 = 4 then (if (x185001.size : Int) = 1 then ((lexer_kinds.f).bind fun t187 => (if 0 < (x185001.size : Int) then (if 0 ≤ (bt x185001 0) then (if (bt x185001 0) < 256 then (some ((lexer_kinds.at_ (bt x185001 0)) == 5)) else (none)) else (none)) else (none))) else (some false)) else (if x185000 = 5 then (some (x185001.toList == ([] : List UInt8))) else (some false))))))
def lexer_Valid.f (k : Nat) (a0_0 : Int) (a0_1 : ByteArray) (a0_2 : Int) (a0_3 : Int) : Option (Bool) := if a0_0 = 2 then (lexer_Valid.j0 k false a0_0 a0_1 a0_2 a0_3) else (lexer_Valid.j0 k (a0_2 != 0) a0_0 a0_1 a0_2 a0_3)
theorem lexer_Valid.mono_l : ∀ k, (∀ y0 y1 y2 y3 y4, LeO (lexer_Valid.j0 k y0 y1 y2 y3 y4) (lexer_Valid.j0 (k + 1) y0 y1 y2 y3 y4))
 | 0 => fun _ _ _ _ _ r h => by simp [lexer_Valid.j0] at h
 | k + 1 => by
  have ih0 := lexer_Valid.mono_l k
  ·
   intro y0 y1 y2 y3 y4
   unfold lexer_Valid.j0
   repeat' first
   | (with_reducible exact LeO.refl _)
   | exact ih0 _ _ _ _ _
   | exact lexer_isWord.mono _ _
   | exact lexer_title.mono _ _
   | exact LeO.none _
   | refine LeO.ite ?_ ?_
   | refine LeO.bind ?_ (fun _ => ?_)
theorem lexer_Valid.mono : ∀ a0 a1 a2 a3 k, LeO (lexer_Valid.f k a0 a1 a2 a3) (lexer_Valid.f (k + 1) a0 a1 a2 a3) := by
 intro a0 a1 a2 a3 k
 have ih0 := lexer_Valid.mono_l k
 unfold lexer_Valid.f
 repeat' first
   | (with_reducible exact LeO.refl _)
   | exact ih0 _ _ _ _ _
   | exact lexer_isWord.mono _ _
   | exact lexer_title.mono _ _
   | exact LeO.none _
   | refine LeO.ite ?_ ?_
   | refine LeO.bind ?_ (fun _ => ?_)
def lexer_Valid.T11 : Bool × List (List Nat × List Nat) := (true, [([], []), ([0], [0]), ([1], [1]), ([2], [2]), ([3], [3]), ([4, 4], [4]), ([4], [4]), ([6, 4], [4, 6]), ([7, 4], [4, 7]), ([5, 8, 4], [4, 5, 8]), ([9, 4], [4, 9]), ([4, 10], [4, 10]), ([11, 5, 0, 1, 2, 3, 4, 5, 6, 7, 8, 9, 10, 11], [11])])
def lexer_Valid.B11 : List Nat := [0, 1, 3, 7, 15, 31, 31, 95, 223, 511, 1023, 2047, 4095]
theorem lexer_Valid.tab11 : rtab .any (opsOf Tryz.f58 11) = lexer_Valid.T11 := by kernel_rfl
theorem lexer_Valid.bits11 : waitsOk lexer_Valid.T11.2 lexer_Valid.B11 = true := by kernel_rfl
theorem lexer_Valid.calls (k : Nat) (a0_0 : Int) (a0_1 : ByteArray) (a0_2 : Int) (a0_3 : Int) (r : Bool) (w : World) (h : lexer_Valid.f k a0_0 a0_1 a0_2 a0_3 = some r) :
  Calls Tryz.prog 58 #[.agg #[.int .i64 a0_0, .string a0_1, .int .i64 a0_2, .int .i64 a0_3]] w fun e w' => e = .returned (.bool r) ∧ Below w.heap.size w w' := by
 have hu46 := Tryz.underlying50; have HB := Aside0.mk (Below.refl w.heap.size w); have H : (if a0_0 = 2 then (lexer_Valid.j0 k false a0_0 a0_1 a0_2 a0_3) else (lexer_Valid.j0 k (a0_2 != 0) a0_0 a0_1 a0_2 a0_3)) = some r := h; clear h; have HC2 := Aside0.mk H; clear H
 go_enter Tryz.func58, Tryz.ntmps58
 go_upto_region 1 with (first | ((with_reducible refine gate_dst (N := 1) rfl ?_); refine bx_ (N := 1) (cs := #[.int .i64 a0_0, .string a0_1, .int .i64 a0_2, .int .i64 a0_3]) (t := 50) ?_; intro gb184 hg w3 hbox hb; have n0_ := Aside0.mk (below_step (bl_ HB.out) hb); have n1_ := Aside0.mk (hbox); have n2_ := Aside0.mk (bz_ (w := w) hg (bl_ HB.out)); have n3_ := Aside0.mk (bz_ (w := w) hg (bl_ HB.out)); clear HB; have HB := n0_; have BK184 := n1_; have GW184 := n2_; have GE184 := n3_; clear n0_ n1_ n2_ n3_; clear hb hbox hg))
 (try simp only [Act.put, List.setIfInBounds_toArray, List.set_cons_zero, List.set_cons_succ])
 go_cut [10] (fun v10 wc => ∃ (kq : Nat) (x10_1 : Bool), v10 = .bool x10_1 ∧ Aside0 (lexer_Valid.j0 kq x10_1 a0_0 a0_1 a0_2 a0_3 = some r) ∧ Aside0 (kq ≤ k) ∧ Aside0 (wc.heap[gb184]? = some (.cells #[.int .i64 a0_0, .string a0_1, .int .i64 a0_2, .int .i64 a0_3] 50 (0, 0))) ∧ Aside0 (Below w.heap.size w wc))
 case first =>
  have H := HC2.out; clear HC2; replace H := (sp_ H).symm; obtain ⟨c4, H⟩ | ⟨c4, H⟩ := H
  ·
   have c4b0 := beq_eq_false_iff_ne.mpr c4; have c4b1 := bne_iff_ne.mpr c4
   (first | rw [c4b0] | (simp only [i64_w, i32_w]; rw [c4b0]) | skip)
   have H' := Aside0.mk H; clear H; obtain ⟨hcz6_0, hcz6_1, hcz6_2, hcz6_3, hfz6_0, hfz6_1, hfz6_2, hfz6_3⟩ := cq4_ BK184.out
   go_wp2
   go_meet
   case rel => exact ⟨_, ((a0_2 != 0)), sr_, H', ⟨by first | omega | exact Nat.le_refl _⟩, ⟨bk_ BK184.out⟩, ⟨bl1_ HB.out GE184.out⟩⟩
  have c4b0 := beq_iff_eq.mpr c4; have c4b1 := bne_eq_false_iff_eq.mpr c4; clear c4
  (first | rw [c4b0] | (simp only [i64_w, i32_w]; rw [c4b0]) | skip)
  have H' := Aside0.mk H; clear H; obtain ⟨hcz5_0, hcz5_1, hcz5_2, hcz5_3, hfz5_0, hfz5_1, hfz5_2, hfz5_3⟩ := cq4_ BK184.out
  go_wp2
  go_meet
  case rel => exact ⟨_, (false), sr_, H', ⟨by first | omega | exact Nat.le_refl _⟩, ⟨bk_ BK184.out⟩, ⟨bl1_ HB.out GE184.out⟩⟩
 case rest =>
  clear HC2; obtain ⟨kq, x10_1, rfl, HA, HJ1, BK184, HB⟩ := hcut
  cases kq with
  | zero => exact absurd HA.out (by simp [lexer_Valid.j0])
  | succ kj1 =>
   have H := HA.out; clear HA; simp only [lexer_Valid.j0] at H; replace H := sb_ H; obtain ⟨rfl, H⟩ | ⟨rfl, H⟩ := H
   ·
    obtain rfl := Option.some.inj H
    go_wp2
    go_ret
    exact ⟨er_, bl1_ HB.out GE184.out⟩
   replace H := sp_ H; obtain ⟨c8, H⟩ | ⟨c8, H⟩ := H
   ·
    have c8b0 := beq_iff_eq.mpr c8; have c8b1 := bne_eq_false_iff_eq.mpr c8; clear c8; replace H := sp_ H; obtain ⟨c9, H⟩ | ⟨c9, H⟩ := H
    ·
     have c9b0 := beq_iff_eq.mpr c9; have c9b1 := bne_eq_false_iff_eq.mpr c9; clear c9; obtain rfl := Option.some.inj H; obtain ⟨hcz10_0, hcz10_1, hcz10_2, hcz10_3, hfz10_0, hfz10_1, hfz10_2, hfz10_3⟩ := cq4_ BK184.out
     go_wp2
     go_ret
     exact ⟨er_, bl1_ HB.out GE184.out⟩
    have c9b0 := beq_eq_false_iff_ne.mpr c9; have c9b1 := bne_iff_ne.mpr c9; replace H := bn_ H; obtain ⟨t185, A11, H⟩ := H; (try dsimp only at H); obtain rfl := Option.some.inj H; obtain ⟨hcz12_0, hcz12_1, hcz12_2, hcz12_3, hfz12_0, hfz12_1, hfz12_2, hfz12_3⟩ := cq4_ BK184.out
    go_wp2_with (first | (go_at_call 70; (with_reducible refine (lexer_isWord.calls kj1 a0_1 t185 _ A11.out).mono ?_); rintro e w13 ⟨rfl, hb⟩; refine cut2_ (bb_ BK184.out hb) (below_step (bl1_ HB.out GE184.out) hb) ?_; clear BK184 HB; intro BK184 HB; (try clear hb); (try clear hb2); (try clear hk); (try clear hi)))
    go_ret
    exact ⟨er_, bl1_ HB.out GE184.out⟩
   have c8b0 := beq_eq_false_iff_ne.mpr c8; have c8b1 := bne_iff_ne.mpr c8; replace H := sp_ H; obtain ⟨c14, H⟩ | ⟨c14, H⟩ := H
   ·
    have c14b0 := beq_iff_eq.mpr c14; have c14b1 := bne_eq_false_iff_eq.mpr c14; clear c14; replace H := (sp_ H).symm; obtain ⟨c15, H⟩ | ⟨c15, H⟩ := H
    ·
     have c15b0 := beq_eq_false_iff_ne.mpr c15; have c15b1 := bne_iff_ne.mpr c15; obtain rfl := Option.some.inj H; obtain ⟨hcz19_0, hcz19_1, hcz19_2, hcz19_3, hfz19_0, hfz19_1, hfz19_2, hfz19_3⟩ := cq4_ BK184.out
     go_wp2
     go_ret
     exact ⟨er_, bl1_ HB.out GE184.out⟩
    have c15b0 := beq_iff_eq.mpr c15; have c15b1 := bne_eq_false_iff_eq.mpr c15; clear c15; replace H := sd_ H; obtain ⟨c16b0, H⟩ | ⟨c16b0, H⟩ := H
    ·
     obtain rfl := Option.some.inj H; obtain ⟨hcz17_0, hcz17_1, hcz17_2, hcz17_3, hfz17_0, hfz17_1, hfz17_2, hfz17_3⟩ := cq4_ BK184.out
     go_wp2
     go_ret
     exact ⟨er_, bl1_ HB.out GE184.out⟩
    obtain rfl := Option.some.inj H; obtain ⟨hcz18_0, hcz18_1, hcz18_2, hcz18_3, hfz18_0, hfz18_1, hfz18_2, hfz18_3⟩ := cq4_ BK184.out
    go_wp2
    go_ret
    exact ⟨er_, bl1_ HB.out GE184.out⟩
   have c14b0 := beq_eq_false_iff_ne.mpr c14; have c14b1 := bne_iff_ne.mpr c14; replace H := sp_ H; obtain ⟨c20, H⟩ | ⟨c20, H⟩ := H
   ·
    have c20b0 := beq_iff_eq.mpr c20; have c20b1 := bne_eq_false_iff_eq.mpr c20; clear c20; replace H := bn_ H; obtain ⟨t186, A21, H⟩ := H; (try dsimp only at H); obtain rfl := Option.some.inj H; obtain ⟨hcz22_0, hcz22_1, hcz22_2, hcz22_3, hfz22_0, hfz22_1, hfz22_2, hfz22_3⟩ := cq4_ BK184.out
    go_wp2_with (first | ((with_reducible refine gate_callee (f := 71) rfl ?_); refine gk_ (some 42) Tryz.func71 (lexer_title.calls kj1 a0_1 t186 _ A21.out) ?_; rintro e w' ⟨rfl, ⟨nd, rfl⟩⟩; refine ⟨_, rfl, ?_⟩))
    go_ret
    exact ⟨er_, bl1_ HB.out GE184.out⟩
   have c20b0 := beq_eq_false_iff_ne.mpr c20; have c20b1 := bne_iff_ne.mpr c20; replace H := (sp_ H).symm; obtain ⟨c23, H⟩ | ⟨c23, H⟩ := H
   ·
    have c23b0 := beq_eq_false_iff_ne.mpr c23; have c23b1 := bne_iff_ne.mpr c23; replace H := (sp_ H).symm; obtain ⟨c36, H⟩ | ⟨c36, H⟩ := H
    ·
     have c36b0 := beq_eq_false_iff_ne.mpr c36; have c36b1 := bne_iff_ne.mpr c36; obtain rfl := Option.some.inj H; obtain ⟨hcz38_0, hcz38_1, hcz38_2, hcz38_3, hfz38_0, hfz38_1, hfz38_2, hfz38_3⟩ := cq4_ BK184.out
     go_wp2
     go_ret
     exact ⟨er_, bl1_ HB.out GE184.out⟩
    have c36b0 := beq_iff_eq.mpr c36; have c36b1 := bne_eq_false_iff_eq.mpr c36; clear c36; obtain rfl := Option.some.inj H; obtain ⟨hcz37_0, hcz37_1, hcz37_2, hcz37_3, hfz37_0, hfz37_1, hfz37_2, hfz37_3⟩ := cq4_ BK184.out
    go_wp2
    go_ret
    exact ⟨er_, bl1_ HB.out GE184.out⟩
   have c23b0 := beq_iff_eq.mpr c23; have c23b1 := bne_eq_false_iff_eq.mpr c23; clear c23; replace H := (sp_ H).symm; obtain ⟨c24, H⟩ | ⟨c24, H⟩ := H
   ·
    have c24b0 := beq_eq_false_iff_ne.mpr c24; have c24b1 := bne_iff_ne.mpr c24; obtain rfl := Option.some.inj H; obtain ⟨hcz34_0, hcz34_1, hcz34_2, hcz34_3, hfz34_0, hfz34_1, hfz34_2, hfz34_3⟩ := cq4_ BK184.out
    try go_wp2
    refine cut2_ (blk_drew BK184.out) (below_drew1 HB.out) ?_; clear BK184 HB; intro BK184 HB; refine start_ (n := 13) (S := fun w' => w'.cell? ⟨gb184, 0, none⟩ = some (.int .i64 a0_0) ∧ w'.cell? ⟨gb184, 1, none⟩ = some (.string a0_1) ∧ w'.cell? ⟨gb184, 2, none⟩ = some (.int .i64 a0_2) ∧ w'.cell? ⟨gb184, 3, none⟩ = some (.int .i64 a0_3)) (ds := []) (bm_ 13 0) (by kernel_rfl) rfl (by kernel_rfl) ⟨ce_ BK184.out 0, ce_ BK184.out 1, ce_ BK184.out 2, ce_ BK184.out 3⟩ (fun hHeld => ?_); refine with_tabW lexer_Valid.tab11 lexer_Valid.bits11 (fun HT_ HW_ => ?_); generalize wc.drew = w35 at BK184 HB hHeld ⊢; refine pt_ HT_.out (i := 0) (N := some 46) (bm_ 13 1) ?_; refine tw_ HT_.out HW_.out hHeld (i := 1) (N := some 47) (bm_ 13 3) ?_; refine pt_ HT_.out (i := 2) (N := some 48) (bm_ 13 7) ?_; refine pt_ HT_.out (i := 3) (N := some 49) (bm_ 13 15) ?_; refine pt_ HT_.out (i := 4) (N := some 50) (bm_ 13 31) ?_; refine pure_ (i := 5) (N := some 51) (v := undef) (a' := ?_) (bm_ 13 63) rfl rfl (any_of HT_.out (by kernel_rfl)) (fun _ _ _ h => h) (Or.inr ⟨by rfl, rfl⟩) ?_ ?_; rotate_left
    ·
     simp only [Act.put, List.setIfInBounds_toArray, List.set_cons_zero, List.set_cons_succ, i64_w, i32_w]
     rfl
    refine pure_ (i := 6) (N := some 52) (v := undef) (a' := ?_) (bm_ 13 127) rfl rfl (any_of HT_.out (by kernel_rfl)) (fun _ _ _ h => h) (Or.inr ⟨by rfl, rfl⟩) ?_ ?_; rotate_left
    ·
     simp only [Act.put, List.setIfInBounds_toArray, List.set_cons_zero, List.set_cons_succ, i64_w, i32_w]
     rfl
    refine pure_ (i := 7) (N := some 53) (v := undef) (a' := ?_) (bm_ 13 255) rfl rfl (any_of HT_.out (by kernel_rfl)) (fun _ _ _ h => h) (Or.inr ⟨by rfl, rfl⟩) ?_ ?_; rotate_left
    ·
     simp only [Act.put, List.setIfInBounds_toArray, List.set_cons_zero, List.set_cons_succ, i64_w, i32_w]
     rfl
    refine pure_ (i := 8) (N := some 54) (v := undef) (a' := ?_) (bm_ 13 511) rfl rfl (any_of HT_.out (by kernel_rfl)) (fun _ _ _ h => h) (Or.inr ⟨by rfl, rfl⟩) ?_ ?_; rotate_left
    ·
     simp only [Act.put, List.setIfInBounds_toArray, List.set_cons_zero, List.set_cons_succ, i64_w, i32_w]
     rfl
    refine pure_ (i := 9) (N := some 55) (v := undef) (a' := ?_) (bm_ 13 1023) rfl rfl (any_of HT_.out (by kernel_rfl)) (fun _ _ _ h => h) (Or.inr ⟨by rfl, rfl⟩) ?_ ?_; rotate_left
    ·
     simp only [Act.put, List.setIfInBounds_toArray, List.set_cons_zero, List.set_cons_succ, i64_w, i32_w]
     rfl
    refine pure_ (i := 10) (N := some 56) (v := undef) (a' := ?_) (bm_ 13 2047) rfl rfl (any_of HT_.out (by kernel_rfl)) (fun _ _ _ h => h) (Or.inr ⟨by rfl, rfl⟩) ?_ ?_; rotate_left
    ·
     simp only [Act.put, List.setIfInBounds_toArray, List.set_cons_zero, List.set_cons_succ, i64_w, i32_w]
     rfl
    refine pt_ HT_.out (i := 11) (N := some 57) (bm_ 13 4095) ?_; refine pt_ HT_.out (i := 12) (N := some 2) (bm_ 13 8191) ?_; refine done_ (done_of HT_.out (by kernel_rfl)) ?_
    try go_wp2
    go_ret
    exact ⟨er_, bl1_ HB.out GE184.out⟩
   have c24b0 := beq_iff_eq.mpr c24; have c24b1 := bne_eq_false_iff_eq.mpr c24; clear c24; replace H := bn_ H; obtain ⟨t187, A25, H⟩ := H; (try dsimp only at H); replace H := gp_ H; obtain ⟨c26, H⟩ := H; have c26b0 := decide_eq_true c26; have c26b1 : decide (0 < a0_1.size) = true := decide_eq_true (by omega); clear c26; replace H := gd_ H; obtain ⟨c28b0, H⟩ := H; replace H := gd_ H; obtain ⟨c29b0, H⟩ := H; obtain rfl := Option.some.inj H; obtain ⟨hcz31_0, hcz31_1, hcz31_2, hcz31_3, hfz31_0, hfz31_1, hfz31_2, hfz31_3⟩ := cq4_ BK184.out
   try go_wp2
   refine cut2_ (blk_drew BK184.out) (below_drew1 HB.out) ?_; clear BK184 HB; intro BK184 HB; have p27 : 0 ≤ (0 : Int) := (by omega); have q27 : 0 < a0_1.size := (by have : (0 : Int) < (a0_1.size : Int) := dt_; omega); have hx27 : ∀ h : 0 < a0_1.size, ((a0_1[0]'h).toNat : Int) = bt a0_1 0 := bt_at a0_1 0; clear p27; have qi27 : (0 < (a0_1.size : Int)) = True := eq_true (dt_); replace q27 := eq_true q27; refine start_ (n := 13) (S := fun w' => w'.cell? ⟨gb184, 0, none⟩ = some (.int .i64 a0_0) ∧ w'.cell? ⟨gb184, 1, none⟩ = some (.string a0_1) ∧ w'.cell? ⟨gb184, 2, none⟩ = some (.int .i64 a0_2) ∧ w'.cell? ⟨gb184, 3, none⟩ = some (.int .i64 a0_3)) (ds := []) (bm_ 13 0) (by kernel_rfl) rfl (by kernel_rfl) ⟨ce_ BK184.out 0, ce_ BK184.out 1, ce_ BK184.out 2, ce_ BK184.out 3⟩ (fun hHeld => ?_); refine with_tabW lexer_Valid.tab11 lexer_Valid.bits11 (fun HT_ HW_ => ?_); generalize wc.drew = w32 at BK184 HB hHeld ⊢; refine pt_ HT_.out (i := 0) (N := some 46) (bm_ 13 1) ?_; refine tw_ HT_.out HW_.out hHeld (i := 1) (N := some 47) (bm_ 13 3) ?_; refine pt_ HT_.out (i := 2) (N := some 48) (bm_ 13 7) ?_; refine pt_ HT_.out (i := 3) (N := some 49) (bm_ 13 15) ?_; refine pt_ HT_.out (i := 4) (N := some 50) (bm_ 13 31) ?_; refine pt_ HT_.out (i := 6) (N := some 52) (bm_ 13 95) ?_; refine tw_ HT_.out HW_.out hHeld (i := 7) (N := some 53) (bm_ 13 223) ?_; refine tw_ HT_.out HW_.out hHeld (i := 8) (N := some 54) (bm_ 13 479) ?_; refine on_ HT_.out (i := 5) (N := some 51) (bm_ 13 511) (fun K hK => ?_); refine goes_ Tryz.func72 (by kernel_rfl) rfl #[] (by rfl) rfl rfl ga_ ?_
   with_reducible refine (lexer_kinds.calls  t187 _ A25.out).mono ?_
   rintro e w33 ⟨rfl, hb⟩; refine ⟨_, rfl, ?_⟩; refine cut2_ (bb_ BK184.out hb) (below_step (bl1_ HB.out GE184.out) hb) ?_; clear BK184 HB; intro BK184 HB; (try clear hb); have p30 : 0 ≤ ((bt a0_1 0) : Int) := dt_; have q30 : ((bt a0_1 0) : Int) < 256 := dt_; have hx30 := lexer_kinds.at_run A25.out (bt a0_1 0) p30 q30; replace p30 := eq_true p30; replace q30 := eq_true q30; refine hK.out _ _ ⟨ce_ BK184.out 0, ce_ BK184.out 1, ce_ BK184.out 2, ce_ BK184.out 3⟩ (fun hHeld => ?_); clear hK K; refine nm_ ?_; refine tw_ HT_.out HW_.out hHeld (i := 9) (N := some 55) (bm_ 13 1023) ?_; refine pt_ HT_.out (i := 10) (N := some 56) (bm_ 13 2047) ?_; refine pt_ HT_.out (i := 11) (N := some 57) (bm_ 13 4095) ?_; refine pt_ HT_.out (i := 12) (N := some 2) (bm_ 13 8191) ?_; refine done_ (done_of HT_.out (by kernel_rfl)) ?_
   try go_wp2
   go_ret
   exact ⟨er_, bl1_ HB.out GE184.out⟩
def lexer_Spell.f (k : Nat) (a0_0 : Int) (a0_1 : ByteArray) (a0_2 : Int) (a0_3 : Int) : Option (ByteArray × Int) := (lexer_Valid.f k a0_0 a0_1 a0_2 a0_3).bind fun t359 => (if t359 = true then (if a0_0 = 3 then (if 1 + a0_1.size ≤ 9223372036854775807 then (if ((⟨#[34]⟩ : ByteArray) ++ a0_1).size + 1 ≤ 9223372036854775807 then (some (((⟨#[34]⟩ : ByteArray) ++ a0_1) ++ (⟨#[34]⟩ : ByteArray), 0)) else (none)) else (none)) else (if a0_0 = 2 then ((strconv_FormatInt.f (wrap64 (a0_2 + 1000)) 10).bind fun t360 => ((strconv_FormatInt.f (wrap64 (Int.tdiv a0_2 1000)) 10).bind fun t361 => (if 0 ≤ (wrap64 ((t360.size : Int) - 3)) then (if (wrap64 ((t360.size : Int) - 3)) ≤ (t360.size : Int) then ((strings_TrimRight.f (t360.extract ((wrap64 ((t360.size : Int) - 3)) : Int).toNat t360.size) (⟨#[48]⟩ : ByteArray)).bind fun t362 => (if t362.toList = ([] : List UInt8) then (some (t361, 0)) else (if t361.size + 1 ≤ 9223372036854775807 then (if (t361 ++ (⟨#[46]⟩ : ByteArray)).size + t362.size ≤ 9223372036854775807 then (some ((t361 ++ (⟨#[46]⟩ : ByteArray)) ++ t362, 0)) else (none)) else (none)))) else (none)) else (none)))) else (some (a0_1, 0)))) else (some ((⟨#[]⟩ : ByteArray), 1)))
theorem lexer_Spell.mono : ∀ a0 a1 a2 a3 k, LeO (lexer_Spell.f k a0 a1 a2 a3) (lexer_Spell.f (k + 1) a0 a1 a2 a3) := by
 intro a0 a1 a2 a3 k
 unfold lexer_Spell.f
 repeat' first
   | (with_reducible exact LeO.refl _)
   | exact lexer_Valid.mono _ _ _ _ _
   | exact LeO.none _
   | refine LeO.ite ?_ ?_
   | refine LeO.bind ?_ (fun _ => ?_)
theorem lexer_Spell.calls (k : Nat) (a0_0 : Int) (a0_1 : ByteArray) (a0_2 : Int) (a0_3 : Int) (r1 : ByteArray) (r2 : Int) (w : World) (hG : Gl w) (h : lexer_Spell.f k a0_0 a0_1 a0_2 a0_3 = some (r1, r2)) :
  Calls Tryz.prog 44 #[.agg #[.int .i64 a0_0, .string a0_1, .int .i64 a0_2, .int .i64 a0_3]] w fun e w' => e = .returned (.tuple #[.string r1, .int .i64 r2]) ∧ Below w.heap.size w w' := by
 have hu46 := Tryz.underlying50; have HB := Aside0.mk (Below.refl w.heap.size w); have H : ((lexer_Valid.f k a0_0 a0_1 a0_2 a0_3).bind fun t359 => (if t359 = true then (if a0_0 = 3 then (if 1 + a0_1.size ≤ 9223372036854775807 then (if ((⟨#[34]⟩ : ByteArray) ++ a0_1).size + 1 ≤ 9223372036854775807 then (some (((⟨#[34]⟩ : ByteArray) ++ a0_1) ++ (⟨#[34]⟩ : ByteArray), 0)) else (none)) else (none)) else (if a0_0 = 2 then ((strconv_FormatInt.f (wrap64 (a0_2 + 1000)) 10).bind fun t360 => ((strconv_FormatInt.f (wrap64 (Int.tdiv a0_2 1000)) 10).bind fun t361 => (if 0 ≤ (wrap64 ((t360.size : Int) - 3)) then (if (wrap64 ((t360.size : Int) - 3)) ≤ (t360.size : Int) then ((strings_TrimRight.f (t360.extract ((wrap64 ((t360.size : Int) - 3)) : Int).toNat t360.size) (⟨#[48]⟩ : ByteArray)).bind fun t362 => (if t362.toList = ([] : List UInt8) then (some (t361, 0)) else (if t361.size + 1 ≤ 9223372036854775807 then (if (t361 ++ (⟨#[46]⟩ : ByteArray)).size + t362.size ≤ 9223372036854775807 then (some ((t361 ++ (⟨#[46]⟩ : ByteArray)) ++ t362, 0)) else (none)) else (none)))) else (none)) else (none)))) else (some (a0_1, 0)))) else (some ((⟨#[]⟩ : ByteArray), 1)))) = some (r1, r2) := h; clear h; replace H := bn_ H; obtain ⟨t359, A2, H⟩ := H; (try dsimp only at H); replace H := (sb_ H).symm; obtain ⟨rfl, H⟩ | ⟨rfl, H⟩ := H
 ·
  simp only [Option.some.injEq, Prod.mk.injEq] at H; obtain ⟨rfl, rfl⟩ := H
  go_enter Tryz.func44, Tryz.ntmps44
  go_wp2_with (first | ((with_reducible refine gate_dst (N := 1) rfl ?_); refine bx_ (N := 1) (cs := #[.int .i64 a0_0, .string a0_1, .int .i64 a0_2, .int .i64 a0_3]) (t := 50) ?_; intro gb358 hg w41 hbox hb; refine cut4_ (below_step (bl_ HB.out) hb) (hbox) (bz_ (w := w) hg (bl_ HB.out)) (bz_ (w := w) hg (bl_ HB.out)) ?_; clear HB; intro HB BK358 GW358 GE358; clear hb hbox hg; obtain ⟨hcz42_0, hcz42_1, hcz42_2, hcz42_3, hfz42_0, hfz42_1, hfz42_2, hfz42_3⟩ := cq4_ BK358.out) | ((with_reducible refine gate_callee (f := 58) rfl ?_); refine gk_ (some 8) Tryz.func58 (lexer_Valid.calls k a0_0 a0_1 a0_2 a0_3 false _ A2.out) ?_; rintro e w43 ⟨rfl, hb⟩; refine ⟨_, rfl, ?_⟩; refine cut2_ (bb_ BK358.out hb) (below_step (bl1_ HB.out GE358.out) hb) ?_; clear hb BK358 HB; intro BK358 HB))
  go_ret2
  exact ⟨er_, bl1_ HB.out GE358.out⟩
 replace H := sp_ H; obtain ⟨c4, H⟩ | ⟨c4, H⟩ := H
 ·
  have c4b0 := beq_iff_eq.mpr c4; have c4b1 := bne_eq_false_iff_eq.mpr c4; clear c4; replace H := gp_ H; obtain ⟨c5, H⟩ := H; have c5b0 := eq_true c5; have c5b1 := decide_eq_true c5
  try have c5b2 : (9223372036854775807 < 1 + a0_1.size) = False := eq_false (Nat.not_lt.2 c5)
  replace H := gp_ H; obtain ⟨c6, H⟩ := H; have c6b0 := eq_true c6; have c6b1 := decide_eq_true c6; (try (have c6b3 : (9223372036854775807 < 1 + a0_1.size + 1) = False := eq_false (Nat.not_lt.2 (by have h_ := c6; simp only [ByteArray.size_append] at h_; exact h_)))); (try (have c6b4 : (1 + a0_1.size + 1 ≤ 9223372036854775807) = True := eq_true (by have h_ := c6; simp only [ByteArray.size_append] at h_; exact h_)))
  try have c6b2 : (9223372036854775807 < ((⟨#[34]⟩ : ByteArray) ++ a0_1).size + 1) = False := eq_false (Nat.not_lt.2 c6)
  simp only [Option.some.injEq, Prod.mk.injEq] at H; obtain ⟨rfl, rfl⟩ := H
  go_enter Tryz.func44, Tryz.ntmps44
  go_wp2_with (first | ((with_reducible refine gate_dst (N := 1) rfl ?_); refine bx_ (N := 1) (cs := #[.int .i64 a0_0, .string a0_1, .int .i64 a0_2, .int .i64 a0_3]) (t := 50) ?_; intro gb358 hg w7 hbox hb; refine cut4_ (below_step (bl_ HB.out) hb) (hbox) (bz_ (w := w) hg (bl_ HB.out)) (bz_ (w := w) hg (bl_ HB.out)) ?_; clear HB; intro HB BK358 GW358 GE358; clear hb hbox hg; obtain ⟨hcz8_0, hcz8_1, hcz8_2, hcz8_3, hfz8_0, hfz8_1, hfz8_2, hfz8_3⟩ := cq4_ BK358.out) | ((with_reducible refine gate_callee (f := 58) rfl ?_); refine gk_ (some 8) Tryz.func58 (lexer_Valid.calls k a0_0 a0_1 a0_2 a0_3 true _ A2.out) ?_; rintro e w9 ⟨rfl, hb⟩; refine ⟨_, rfl, ?_⟩; refine cut2_ (bb_ BK358.out hb) (below_step (bl1_ HB.out GE358.out) hb) ?_; clear hb BK358 HB; intro BK358 HB; obtain ⟨hcz10_0, hcz10_1, hcz10_2, hcz10_3, hfz10_0, hfz10_1, hfz10_2, hfz10_3⟩ := cq4_ BK358.out))
  go_ret2
  exact ⟨er_, bl1_ HB.out GE358.out⟩
 have c4b0 := beq_eq_false_iff_ne.mpr c4; have c4b1 := bne_iff_ne.mpr c4; replace H := (sp_ H).symm; obtain ⟨c11, H⟩ | ⟨c11, H⟩ := H
 ·
  have c11b0 := beq_eq_false_iff_ne.mpr c11; have c11b1 := bne_iff_ne.mpr c11; simp only [Option.some.injEq, Prod.mk.injEq] at H; obtain ⟨rfl, rfl⟩ := H
  go_enter Tryz.func44, Tryz.ntmps44
  go_wp2_with (first | ((with_reducible refine gate_dst (N := 1) rfl ?_); refine bx_ (N := 1) (cs := #[.int .i64 a0_0, .string a0_1, .int .i64 a0_2, .int .i64 a0_3]) (t := 50) ?_; intro gb358 hg w37 hbox hb; refine cut4_ (below_step (bl_ HB.out) hb) (hbox) (bz_ (w := w) hg (bl_ HB.out)) (bz_ (w := w) hg (bl_ HB.out)) ?_; clear HB; intro HB BK358 GW358 GE358; clear hb hbox hg; obtain ⟨hcz38_0, hcz38_1, hcz38_2, hcz38_3, hfz38_0, hfz38_1, hfz38_2, hfz38_3⟩ := cq4_ BK358.out) | ((with_reducible refine gate_callee (f := 58) rfl ?_); refine gk_ (some 8) Tryz.func58 (lexer_Valid.calls k a0_0 a0_1 a0_2 a0_3 true _ A2.out) ?_; rintro e w39 ⟨rfl, hb⟩; refine ⟨_, rfl, ?_⟩; refine cut2_ (bb_ BK358.out hb) (below_step (bl1_ HB.out GE358.out) hb) ?_; clear hb BK358 HB; intro BK358 HB; obtain ⟨hcz40_0, hcz40_1, hcz40_2, hcz40_3, hfz40_0, hfz40_1, hfz40_2, hfz40_3⟩ := cq4_ BK358.out))
  go_ret2
  exact ⟨er_, bl1_ HB.out GE358.out⟩
 have c11b0 := beq_iff_eq.mpr c11; have c11b1 := bne_eq_false_iff_eq.mpr c11; clear c11; replace H := bn_ H; obtain ⟨t360, A12, H⟩ := H; (try dsimp only at H); replace H := bn_ H; obtain ⟨t361, A13, H⟩ := H; (try dsimp only at H); obtain ⟨ji14, hji14⟩ : ∃ j_ : Int, (wrap64 ((t360.size : Int) - 3)) = j_ := ⟨_, rfl⟩; replace H : (if 0 ≤ (ji14) then (if (ji14) ≤ (t360.size : Int) then ((strings_TrimRight.f (t360.extract ((ji14) : Int).toNat t360.size) (⟨#[48]⟩ : ByteArray)).bind fun t362 => (if t362.toList = ([] : List UInt8) then (some (t361, 0)) else (if t361.size + 1 ≤ 9223372036854775807 then (if (t361 ++ (⟨#[46]⟩ : ByteArray)).size + t362.size ≤ 9223372036854775807 then (some ((t361 ++ (⟨#[46]⟩ : ByteArray)) ++ t362, 0)) else (none)) else (none)))) else (none)) else (none)) = some (r1, r2) := by first | (rw [hji14] at H; exact H) | (simp only [hji14] at H ⊢; exact H)
 (try rw [hji14] at A2); (try rw [hji14] at A12); (try rw [hji14] at A13); have hji14w : (IntKind.i64.wrap ((t360.size : Int) - 3)) = ji14 := (i64_w _).trans hji14; replace H := gt_ H; obtain ⟨c15b0, c15b1, H⟩ := H; replace H := gt_ H; obtain ⟨c16b0, c16b1, H⟩ := H; replace H := bn_ H; obtain ⟨t362, A17, H⟩ := H; (try dsimp only at H); replace H := sp_ H; obtain ⟨c18, H⟩ | ⟨c18, H⟩ := H
 ·
  have c18b0 := beq_iff_eq.mpr c18; have c18b1 := bne_eq_false_iff_eq.mpr c18; clear c18; simp only [Option.some.injEq, Prod.mk.injEq] at H; obtain ⟨rfl, rfl⟩ := H
  go_enter Tryz.func44, Tryz.ntmps44
  go_wp2_with (first | ((with_reducible refine gate_dst (N := 1) rfl ?_); refine bx_ (N := 1) (cs := #[.int .i64 a0_0, .string a0_1, .int .i64 a0_2, .int .i64 a0_3]) (t := 50) ?_; intro gb358 hg w19 hbox hb; refine cut4_ (below_step (bl_ HB.out) hb) (hbox) (bz_ (w := w) hg (bl_ HB.out)) (bz_ (w := w) hg (bl_ HB.out)) ?_; clear HB; intro HB BK358 GW358 GE358; clear hb hbox hg; obtain ⟨hcz20_0, hcz20_1, hcz20_2, hcz20_3, hfz20_0, hfz20_1, hfz20_2, hfz20_3⟩ := cq4_ BK358.out) | ((with_reducible refine gate_callee (f := 58) rfl ?_); refine gk_ (some 8) Tryz.func58 (lexer_Valid.calls k a0_0 a0_1 a0_2 a0_3 true _ A2.out) ?_; rintro e w21 ⟨rfl, hb⟩; refine ⟨_, rfl, ?_⟩; refine cut2_ (bb_ BK358.out hb) (below_step (bl1_ HB.out GE358.out) hb) ?_; clear hb BK358 HB; intro BK358 HB; obtain ⟨hcz22_0, hcz22_1, hcz22_2, hcz22_3, hfz22_0, hfz22_1, hfz22_2, hfz22_3⟩ := cq4_ BK358.out) | ((with_reducible refine gate_callee (f := 62) rfl ?_); refine gk_ (some 23) Tryz.func62 (strconv_FormatInt.calls (wrap64 (a0_2 + 1000)) 10 t360 _ ?side1 A12.out) ?_; (case side1 => exact Gl.below hG (bl1_ HB.out GE358.out)); rintro e w23 ⟨rfl, hb⟩; refine ⟨_, rfl, ?_⟩; refine cut2_ (bb_ BK358.out hb) (below_step (bl1_ HB.out GE358.out) hb) ?_; clear hb BK358 HB; intro BK358 HB; obtain ⟨hcz24_0, hcz24_1, hcz24_2, hcz24_3, hfz24_0, hfz24_1, hfz24_2, hfz24_3⟩ := cq4_ BK358.out) | ((with_reducible refine gate_callee (f := 62) rfl ?_); refine gk_ (some 27) Tryz.func62 (strconv_FormatInt.calls (wrap64 (Int.tdiv a0_2 1000)) 10 t361 _ ?side1 A13.out) ?_; (case side1 => exact Gl.below hG (bl1_ HB.out GE358.out)); rintro e w25 ⟨rfl, hb⟩; refine ⟨_, rfl, ?_⟩; refine cut2_ (bb_ BK358.out hb) (below_step (bl1_ HB.out GE358.out) hb) ?_; clear hb BK358 HB; intro BK358 HB) | ((with_reducible refine gate_callee (f := 63) rfl ?_); refine goesL_ (some 33) rfl rfl Tryz.func63 (by kernel_rfl) rfl #[.string (t360.extract ((ji14) : Int).toNat t360.size), .string (⟨#[48]⟩ : ByteArray)] rfl (by (try simp only [List.map_toArray, List.map_cons, List.map_nil]); first | done | (simp only [hji14]; rfl) | rfl | (simp only [List.length_drop, List.length_take]; rfl)) ?_; (with_reducible refine (strings_TrimRight.calls (t360.extract ((ji14) : Int).toNat t360.size) (⟨#[48]⟩ : ByteArray) t362 _ A17.out).mono ?_); rintro e w26 ⟨rfl, hb⟩; refine ⟨_, rfl, ?_⟩; refine cut2_ (bb_ BK358.out hb) (below_step (bl1_ HB.out GE358.out) hb) ?_; clear hb BK358 HB; intro BK358 HB))
  go_ret2
  exact ⟨by first | rfl | (simp [errW_none, errW_some] <;> rfl) | (simp only [← hji14]; first | rfl | (simp [errW_none, errW_some] <;> rfl)) | (simp [*, errW_none, errW_some] <;> rfl), bl1_ HB.out GE358.out⟩
 have c18b0 := beq_eq_false_iff_ne.mpr c18; have c18b1 := bne_iff_ne.mpr c18; replace H := gp_ H; obtain ⟨c27, H⟩ := H; have c27b0 := eq_true c27; have c27b1 := decide_eq_true c27
 try have c27b2 : (9223372036854775807 < t361.size + 1) = False := eq_false (Nat.not_lt.2 c27)
 replace H := gp_ H; obtain ⟨c28, H⟩ := H; have c28b0 := eq_true c28; have c28b1 := decide_eq_true c28; (try (have c28b3 : (9223372036854775807 < t361.size + 1 + t362.size) = False := eq_false (Nat.not_lt.2 (by have h_ := c28; simp only [ByteArray.size_append] at h_; exact h_)))); (try (have c28b4 : (t361.size + 1 + t362.size ≤ 9223372036854775807) = True := eq_true (by have h_ := c28; simp only [ByteArray.size_append] at h_; exact h_)))
 try have c28b2 : (9223372036854775807 < (t361 ++ (⟨#[46]⟩ : ByteArray)).size + t362.size) = False := eq_false (Nat.not_lt.2 c28)
 simp only [Option.some.injEq, Prod.mk.injEq] at H; obtain ⟨rfl, rfl⟩ := H
 go_enter Tryz.func44, Tryz.ntmps44
 go_wp2_with (first | ((with_reducible refine gate_dst (N := 1) rfl ?_); refine bx_ (N := 1) (cs := #[.int .i64 a0_0, .string a0_1, .int .i64 a0_2, .int .i64 a0_3]) (t := 50) ?_; intro gb358 hg w29 hbox hb; refine cut4_ (below_step (bl_ HB.out) hb) (hbox) (bz_ (w := w) hg (bl_ HB.out)) (bz_ (w := w) hg (bl_ HB.out)) ?_; clear HB; intro HB BK358 GW358 GE358; clear hb hbox hg; obtain ⟨hcz30_0, hcz30_1, hcz30_2, hcz30_3, hfz30_0, hfz30_1, hfz30_2, hfz30_3⟩ := cq4_ BK358.out) | ((with_reducible refine gate_callee (f := 58) rfl ?_); refine gk_ (some 8) Tryz.func58 (lexer_Valid.calls k a0_0 a0_1 a0_2 a0_3 true _ A2.out) ?_; rintro e w31 ⟨rfl, hb⟩; refine ⟨_, rfl, ?_⟩; refine cut2_ (bb_ BK358.out hb) (below_step (bl1_ HB.out GE358.out) hb) ?_; clear hb BK358 HB; intro BK358 HB; obtain ⟨hcz32_0, hcz32_1, hcz32_2, hcz32_3, hfz32_0, hfz32_1, hfz32_2, hfz32_3⟩ := cq4_ BK358.out) | ((with_reducible refine gate_callee (f := 62) rfl ?_); refine gk_ (some 23) Tryz.func62 (strconv_FormatInt.calls (wrap64 (a0_2 + 1000)) 10 t360 _ ?side1 A12.out) ?_; (case side1 => exact Gl.below hG (bl1_ HB.out GE358.out)); rintro e w33 ⟨rfl, hb⟩; refine ⟨_, rfl, ?_⟩; refine cut2_ (bb_ BK358.out hb) (below_step (bl1_ HB.out GE358.out) hb) ?_; clear hb BK358 HB; intro BK358 HB; obtain ⟨hcz34_0, hcz34_1, hcz34_2, hcz34_3, hfz34_0, hfz34_1, hfz34_2, hfz34_3⟩ := cq4_ BK358.out) | ((with_reducible refine gate_callee (f := 62) rfl ?_); refine gk_ (some 27) Tryz.func62 (strconv_FormatInt.calls (wrap64 (Int.tdiv a0_2 1000)) 10 t361 _ ?side1 A13.out) ?_; (case side1 => exact Gl.below hG (bl1_ HB.out GE358.out)); rintro e w35 ⟨rfl, hb⟩; refine ⟨_, rfl, ?_⟩; refine cut2_ (bb_ BK358.out hb) (below_step (bl1_ HB.out GE358.out) hb) ?_; clear hb BK358 HB; intro BK358 HB) | ((with_reducible refine gate_callee (f := 63) rfl ?_); refine goesL_ (some 33) rfl rfl Tryz.func63 (by kernel_rfl) rfl #[.string (t360.extract ((ji14) : Int).toNat t360.size), .string (⟨#[48]⟩ : ByteArray)] rfl (by (try simp only [List.map_toArray, List.map_cons, List.map_nil]); first | done | (simp only [hji14]; rfl) | rfl | (simp only [List.length_drop, List.length_take]; rfl)) ?_; (with_reducible refine (strings_TrimRight.calls (t360.extract ((ji14) : Int).toNat t360.size) (⟨#[48]⟩ : ByteArray) t362 _ A17.out).mono ?_); rintro e w36 ⟨rfl, hb⟩; refine ⟨_, rfl, ?_⟩; refine cut2_ (bb_ BK358.out hb) (below_step (bl1_ HB.out GE358.out) hb) ?_; clear hb BK358 HB; intro BK358 HB))
 go_ret2
 exact ⟨by first | rfl | (simp [errW_none, errW_some] <;> rfl) | (simp only [← hji14]; first | rfl | (simp [errW_none, errW_some] <;> rfl)) | (simp [*, errW_none, errW_some] <;> rfl), bl1_ HB.out GE358.out⟩
end Go.Proofs.YtkifdadhojbohaaGreatDoor.Pr
namespace Go.Proofs.YtkifdadhojbohaaGreatDoor.Pu
open Go.RowKit Go.Proofs.YtkifdadhojbohaaGreatDoor Go.Proofs.YtkifdadhojbohaaGreatDoor.Pr Go.Proofs.YtkifdadhojbohaaGreatDoorW.PrintWords Go.Proofs.YtkifdadhojbohaaGreatDoorW.PrintLast
theorem isWord_f (s : ByteArray) (hs : s.size ≤ 1000000) : Ev (fun k => lexer_isWord.f k s) ((lst s).all isRunB && wordL (lst s) == 0) := by
  have loop : ∀ (d i : Nat) (l : List UInt8), i ≤ s.size → s.size - i = d → (lst s).drop i = l → Ev (fun k => lexer_isWord.l0 k s s.size i) (l.all isRunB && wordL (lst s) == 0) := by
    intro d
    induction d with
    | zero =>
      intro i l hi hd hl
      obtain rfl : i = s.size := by omega
      obtain rfl : l = [] := by rw [← hl]; exact List.drop_eq_nil_of_le (by rw [lst_length]; omega)
      refine Ev.succ ?_
      simp only [lexer_isWord.l0]
      exact Ev.ifn (by omega) (Ev.bind (word_f s hs) (Ev.ret (by simp)))
    | succ d ih =>
      intro i l hi hd hl
      cases l with
      | nil => exact absurd (at_nil hi hl) (by omega)
      | cons c l =>
        obtain ⟨h1, h2, h3⟩ := at_cons hl
        refine Ev.succ ?_
        simp only [lexer_isWord.l0]
        rw [h2, wrap_nat i (by omega)]
        refine Ev.ifp (by omega) (Ev.ifp (by omega) (Ev.ifp (by omega) (Ev.val (isRun_f c) ?_)))
        by_cases hr : isRunB c = true
        · refine Ev.ifp hr ?_
          have := ih (i + 1) l (by omega) (by omega) h3
          rw [List.all_cons, hr, Bool.true_and]
          exact this
        · refine Ev.ifn hr (Ev.ret ?_)
          rw [Bool.not_eq_true] at hr
          rw [List.all_cons, hr]; rfl
  unfold lexer_isWord.f
  exact loop _ 0 (lst s) (by omega) rfl rfl
theorem list1 (s : ByteArray) (h : s.size = 1) : ∃ c, lst s = [c] ∧ bt s 0 = (c.toNat : Int) := by
  obtain ⟨c, hc, hb⟩ := head_bt (s := s) (by omega)
  have hl : (lst s).length = 1 := by rw [lst_length]; exact h
  match hx : lst s, hl with
  | [x], _ =>
    rw [hx] at hc
    simp only [List.head?_cons, Option.some.injEq] at hc
    subst hc
    exact ⟨x, rfl, hb⟩
theorem valid_f (k0 : Int) (s : ByteArray) (hs : s.size ≤ 1000000) (n a : Int) : Ev (fun k => lexer_Valid.f k k0 s n a) (validB k0 (lst s) n) := by
  have j0 : Ev (fun k => lexer_Valid.j0 k false k0 s n a) (validB k0 (lst s) (if k0 = 2 then n else 0)) := by
    refine Ev.succ ?_
    simp only [lexer_Valid.j0]
    refine Ev.ifn (by decide) ?_
    unfold validB
    by_cases h1 : k0 = 1
    · subst h1
      refine Ev.ifp rfl ?_
      by_cases h : s.toList = []
      · refine Ev.ifp h (Ev.ret ?_)
        rw [toList_lst] at h
        rw [h]; rfl
      · refine Ev.ifn h (Ev.bind (isWord_f s hs) (Ev.ret ?_))
        simp
    · refine Ev.ifn h1 ?_
      by_cases h2 : k0 = 2
      · subst h2
        refine Ev.ifp rfl ?_
        by_cases h : s.toList = []
        · refine Ev.ifp h ?_
          rw [toList_lst] at h
          by_cases h3 : 0 ≤ n
          · exact Ev.ifp h3 (Ev.ret (by simp [h, h3]))
          · exact Ev.ifn h3 (Ev.ret (by simp [h, h3]))
        · refine Ev.ifn h (Ev.ret ?_)
          rw [toList_lst] at h
          simp [h]
      · refine Ev.ifn h2 ?_
        by_cases h3 : k0 = 3
        · subst h3
          exact Ev.ifp rfl (Ev.bind (title_f s hs) (Ev.ret (by simp)))
        · refine Ev.ifn h3 ?_
          by_cases h4 : k0 = 4
          · subst h4
            refine Ev.ifp rfl ?_
            by_cases h : (s.size : Int) = 1
            · obtain ⟨c, hc, hb⟩ := list1 s (by omega)
              refine Ev.ifp h (Ev.val kinds_f (Ev.ifp (by omega) (Ev.ifp (by rw [hb]; omega) (Ev.ifp (by rw [hb]; exact byte_lt c) (Ev.ret ?_)))))
              rw [hb, at_byte, hc]
              simp
              by_cases h5 : kindOf c.toNat = 5
              · simp [h5]
              · rw [beq_eq_false_iff_ne.2 h5, beq_eq_false_iff_ne]; omega
            · refine Ev.ifn h (Ev.ret ?_)
              have : ¬ (lst s).length = 1 := by rw [lst_length]; omega
              simp [this]
          · refine Ev.ifn h4 ?_
            by_cases h5 : k0 = 5
            · subst h5
              exact Ev.ifp rfl (Ev.ret (by rw [toList_lst]; simp))
            · exact Ev.ifn h5 (Ev.ret (by simp [h1, h2, h3, h4, h5]))
  unfold lexer_Valid.f
  by_cases h2 : k0 = 2
  · rw [if_pos h2] at j0
    exact Ev.ifp h2 j0
  · rw [if_neg h2] at j0
    refine Ev.ifn h2 ?_
    by_cases hn : n = 0
    · subst hn; exact j0
    · rw [show (n != 0) = true by simpa using hn]
      refine Ev.succ ?_
      simp only [lexer_Valid.j0]
      exact Ev.ifp (by simp) (Ev.ret (by unfold validB; rw [if_pos ⟨h2, hn⟩]))
theorem Spell_num (m : Nat) (hm : m ≤ 1000000000) (f : ByteArray → ByteArray → Option (ByteArray × Int)) (hf : f (str (Lib.decDigits (m / 1000))) (str (cutZ (three (m % 1000)))) = some (str (numS m), 0)) :
    ((strconv_FormatInt.f (wrap64 ((m : Int) + 1000)) 10).bind fun t360 => ((strconv_FormatInt.f (wrap64 (Int.tdiv (m : Int) 1000)) 10).bind fun t361 => (if 0 ≤ (wrap64 ((t360.size : Int) - 3)) then (if (wrap64 ((t360.size : Int) - 3)) ≤ (t360.size : Int) then ((strings_TrimRight.f (t360.extract ((wrap64 ((t360.size : Int) - 3)) : Int).toNat t360.size) (⟨#[48]⟩ : ByteArray)).bind fun t362 => f t361 t362) else (none)) else (none)))) = some (str (numS m), 0) := by
  have e1 : wrap64 (Int.tdiv (m : Int) 1000) = ((m / 1000 : Nat) : Int) := by
    rw [show Int.tdiv (m : Int) 1000 = ((m / 1000 : Nat) : Int) from rfl, wrap64_of (by omega) (by omega)]
  have e2 : wrap64 ((m : Int) + 1000) = (((m / 1000 + 1) * 1000 + m % 1000 : Nat) : Int) := by
    rw [wrap64_of (by omega) (by omega)]; omega
  have hl := dec_len (m / 1000 + 1) (by omega)
  have hl2 := (dec_spec (m / 1000 + 1)).2.2.1
  rw [e1, e2, fmt_f _ (by omega), fmt_f _ (by omega), dec_thousand _ (by omega) _ (by omega)]
  simp only [Option.bind_some]
  have hsz : (str (Lib.decDigits (m / 1000 + 1) ++ three (m % 1000))).size = (Lib.decDigits (m / 1000 + 1)).length + 3 := by
    rw [size_str, List.length_append]; rfl
  rw [hsz, wrap64_of (by omega) (by omega), show (((Lib.decDigits (m / 1000 + 1)).length + 3 : Nat) : Int) - 3 = ((Lib.decDigits (m / 1000 + 1)).length : Int) by omega, if_pos (by omega), if_pos (by omega), Int.toNat_natCast]
  have hx : (str (Lib.decDigits (m / 1000 + 1) ++ three (m % 1000))).extract (Lib.decDigits (m / 1000 + 1)).length ((Lib.decDigits (m / 1000 + 1)).length + 3) = str (three (m % 1000)) := by
    apply lst_inj
    rw [lst_extract, lst_str, lst_str, List.take_of_length_le (by rw [List.length_append]; exact Nat.le_refl _), List.drop_left]
  rw [hx]
  have ht : strings_TrimRight.f (str (three (m % 1000))) (⟨#[48]⟩ : ByteArray) = some (str (cutZ (three (m % 1000)))) := by
    unfold strings_TrimRight.f
    rw [if_pos ⟨rfl, by rw [size_str]; simp [three]⟩]
    rfl
  rw [ht]
  exact hf
theorem Spell_f (k0 : Int) (s : ByteArray) (hs : s.size ≤ 1000000) (n a : Int) : Ev (fun k => lexer_Spell.f k k0 s n a) (if validB k0 (lst s) n = true then (str (spellS k0 (lst s) n), 0) else (⟨#[]⟩, 1)) := by
  unfold lexer_Spell.f
  refine Ev.bind (valid_f k0 s hs n a) ?_
  cases hv : validB k0 (lst s) n with
  | false => exact Ev.ifn (by simp) (Ev.ret (by simp))
  | true =>
    refine Ev.ifp rfl ?_
    rw [if_pos rfl]
    by_cases h3 : k0 = 3
    · subst h3
      refine Ev.ifp rfl (Ev.ifp (by omega) (Ev.ifp ?_ (Ev.ret ?_)))
      · rw [ByteArray.size_append]; show 1 + s.size + 1 ≤ _; omega
      · congr 1
    · refine Ev.ifn h3 ?_
      by_cases h2 : k0 = 2
      · subst h2
        refine Ev.ifp rfl ?_
        have hv2 := hv
        unfold validB at hv2
        rw [if_neg (by rintro ⟨h, _⟩; exact h rfl), if_neg (by decide), if_pos rfl, Bool.and_eq_true, Bool.and_eq_true, decide_eq_true_eq, decide_eq_true_eq, beq_iff_eq] at hv2
        obtain ⟨⟨h0, g0⟩, g1⟩ := hv2
        obtain ⟨m, rfl⟩ : ∃ m : Nat, n = (m : Int) := ⟨n.toNat, by omega⟩
        have e : spellS 2 (lst s) (m : Int) = numS m := by
          unfold spellS
          rw [if_neg (by decide), if_pos rfl, if_pos ⟨g0, g1⟩]; rfl
        rw [e]
        have hl := numS_len m (by omega)
        refine Ev.const (Spell_num m (by omega) _ ?_)
        have hlen : (numS m).length = (Lib.decDigits (m / 1000)).length + (if cutZ (three (m % 1000)) = [] then 0 else (cutZ (three (m % 1000))).length + 1) := by
          unfold numS; rw [List.length_append]; split <;> simp
        by_cases hz : cutZ (three (m % 1000)) = []
        · rw [if_pos (by rw [toList_lst, lst_str]; exact hz)]
          unfold numS; rw [if_pos hz, List.append_nil]
        · rw [if_neg hz] at hlen
          rw [if_neg (by rw [toList_lst, lst_str]; exact hz), show (⟨#[46]⟩ : ByteArray) = str [46] from rfl, str_append, str_append, size_str, size_str, size_str, if_pos (by omega), if_pos (by rw [List.length_append]; simp; omega)]
          unfold numS; rw [if_neg hz]; simp
      · refine Ev.ifn h2 (Ev.ret ?_)
        unfold spellS
        rw [if_neg h3, if_neg h2]
        by_cases h14 : k0 = 1 ∨ k0 = 4
        · rw [if_pos h14, str_lst]
        · rw [if_neg h14]
          have hv2 := hv
          unfold validB at hv2
          by_cases hn : k0 ≠ 2 ∧ n ≠ 0
          · rw [if_pos hn] at hv2; cases hv2
          · rw [if_neg hn, if_neg (fun h => h14 (.inl h)), if_neg h2, if_neg h3, if_neg (fun h => h14 (.inr h))] at hv2
            by_cases h5 : k0 = 5
            · rw [if_pos h5, beq_iff_eq] at hv2
              congr 1
              apply lst_inj; rw [hv2]; rfl
            · rw [if_neg h5] at hv2; cases hv2
end Go.Proofs.YtkifdadhojbohaaGreatDoor.Pu
namespace Go.Proofs.YtkifdadhojbohaaGreatDoor.Pr
open Go.Proofs.YtkifdadhojbohaaGreatDoor
open Go.RowKit Go.Proofs.YtkifdadhojbohaaGreatDoorW.PrintWords Go.Proofs.YtkifdadhojbohaaGreatDoorW.PrintLast Go.Proofs.YtkifdadhojbohaaGreatDoorW.PrintMore
attribute [local go_sem] max2_int min2_int max_two min_two max_three min_three max_four min_four   -- for this text's walks alone
set_option linter.unusedVariables false
set_option linter.unusedSimpArgs false
mutual
def parser_formed.l0 : Nat → List (S41) → Int → Int → Option (Bool)
 | 0, _, _, _ => none
 | k + 1, x7, x8, x9 => if x9 < x8 then (if 0 ≤ x9 then (if x9 < (x7.length : Int) then ((lexer_Valid.f k 1 ((rd_T41 x7 x9).f0) 0 0).bind fun t190 => (if t190 = true then (if ((rd_T41 x7 x9).f2 = true) then (parser_formed.l1 k x7 x8 x9 ((rd_T41 x7 x9).f1) (((rd_T41 x7 x9).f1).length : Int) 0 ((rd_T41 x7 x9).f0) ((rd_T41 x7 x9).f1) ((rd_T41 x7 x9).f2) ((rd_T41 x7 x9).f3) ((rd_T41 x7 x9).f4)) else (if (((rd_T41 x7 x9).f3).length : Int) > 0 then (some false) else (parser_formed.l1 k x7 x8 x9 ((rd_T41 x7 x9).f1) (((rd_T41 x7 x9).f1).length : Int) 0 ((rd_T41 x7 x9).f0) ((rd_T41 x7 x9).f1) ((rd_T41 x7 x9).f2) ((rd_T41 x7 x9).f3) ((rd_T41 x7 x9).f4)))) else (some false))) else (none)) else (none)) else (some true)
def parser_formed.l1 : Nat → List (S41) → Int → Int → List (S46) → Int → Int → ByteArray → List (S46) → Bool → List (S41) → Int → Option (Bool)
 | 0, _, _, _, _, _, _, _, _, _, _, _ => none
 | k + 1, x7, x8, x9, x30, x31, x32, x190000, x190001, x190002, x190003, x190004 => if x32 < x31 then (if 0 ≤ x32 then (if x32 < (x30.length : Int) then ((parser_atom.f ((rd_T46 x30 x32).f0) ((rd_T46 x30 x32).f1) ((rd_T46 x30 x32).f2) ((rd_T46 x30 x32).f3)).bind fun t193 => (if t193 = true then ((lexer_Valid.f k ((rd_T46 x30 x32).f0) ((rd_T46 x30 x32).f1) ((rd_T46 x30 x32).f2) ((rd_T46 x30 x32).f3)).bind fun t194 => (if t194 = true then (parser_formed.l1 k x7 x8 x9 x30 x31 (wrap64 (x32 + 1)) x190000 x190001 x190002 x190003 x190004) else (some false))) else (some false))) else (none)) else (none)) else ((parser_formed.f k x190003).bind fun t195 => (if t195 = true then (parser_formed.l0 k x7 x8 (wrap64 (x9 + 1))) else (some false)))
def parser_formed.f : Nat → List (S41) → Option (Bool)
 | 0, _ => none
 | k + 1, l0 => parser_formed.l0 k l0 (l0.length : Int) 0
end
theorem parser_formed.mono_l : ∀ k, (∀ y0, LeO (parser_formed.f k y0) (parser_formed.f (k + 1) y0)) ∧ (∀ y0 y1 y2, LeO (parser_formed.l0 k y0 y1 y2) (parser_formed.l0 (k + 1) y0 y1 y2)) ∧ (∀ y0 y1 y2 y3 y4 y5 y6 y7 y8 y9 y10, LeO (parser_formed.l1 k y0 y1 y2 y3 y4 y5 y6 y7 y8 y9 y10) (parser_formed.l1 (k + 1) y0 y1 y2 y3 y4 y5 y6 y7 y8 y9 y10))
 | 0 => ⟨fun _ r h => by simp [parser_formed.f] at h, fun _ _ _ r h => by simp [parser_formed.l0] at h, fun _ _ _ _ _ _ _ _ _ _ _ r h => by simp [parser_formed.l1] at h⟩
 | k + 1 => by
  obtain ⟨ih0, ih1, ih2⟩ := parser_formed.mono_l k
  refine ⟨?_, ?_, ?_⟩
  ·
   intro y0
   unfold parser_formed.f
   repeat' first
   | (with_reducible exact LeO.refl _)
   | exact ih0 _
   | exact ih1 _ _ _
   | exact ih2 _ _ _ _ _ _ _ _ _ _ _
   | exact lexer_Valid.mono _ _ _ _ _
   | exact LeO.none _
   | refine LeO.ite ?_ ?_
   | refine LeO.bind ?_ (fun _ => ?_)
  ·
   intro y0 y1 y2
   unfold parser_formed.l0
   repeat' first
   | (with_reducible exact LeO.refl _)
   | exact ih0 _
   | exact ih1 _ _ _
   | exact ih2 _ _ _ _ _ _ _ _ _ _ _
   | exact lexer_Valid.mono _ _ _ _ _
   | exact LeO.none _
   | refine LeO.ite ?_ ?_
   | refine LeO.bind ?_ (fun _ => ?_)
  ·
   intro y0 y1 y2 y3 y4 y5 y6 y7 y8 y9 y10
   unfold parser_formed.l1
   repeat' first
   | (with_reducible exact LeO.refl _)
   | exact ih0 _
   | exact ih1 _ _ _
   | exact ih2 _ _ _ _ _ _ _ _ _ _ _
   | exact lexer_Valid.mono _ _ _ _ _
   | exact LeO.none _
   | refine LeO.ite ?_ ?_
   | refine LeO.bind ?_ (fun _ => ?_)
theorem parser_formed.mono : ∀ a0 k, LeO (parser_formed.f k a0) (parser_formed.f (k + 1) a0) := by
 intro a0 k
 obtain ⟨ih0, ih1, ih2⟩ := parser_formed.mono_l k
 exact ih0 a0
theorem parser_formed.calls (k : Nat) : ∀ (A0 : Option Addr) (c0 : Nat) (l0 : List (S41)) (r : Bool) (w : World) (hr0 : Kd.C k41 w A0 l0.length l0) (hc0 : l0.length ≤ c0) (h : parser_formed.f k l0 = some r),
  Calls Tryz.prog 39 #[.slice A0 l0.length c0] w fun e w' => e = .returned (.bool r) ∧ Below w.heap.size w w' := by
 induction k using Nat.strongRecOn with
 | _ k ih =>
 intro A0 c0 l0 r w hr0 hc0 h
 cases k with
 | zero => exact absurd h (by simp [parser_formed.f])
 | succ k =>
 simp only [parser_formed.f] at h; have hu41 := Tryz.underlying25; have hu46 := Tryz.underlying50; have HR0 := Aside0.mk hr0; have HC0 := Aside0.mk hc0; clear hr0 hc0; have HB := Aside0.mk (Below.refl w.heap.size w); have H : (parser_formed.l0 k l0 (l0.length : Int) 0) = some r := h; clear h; have H' := Aside0.mk H; clear H
 go_enter Tryz.func39, Tryz.ntmps39
 go_wp2
 go_loopg [9] k (fun kq v9 w' => ∃ (x9_1 : Int), v9 = .int .i64 x9_1 ∧ Aside0 (parser_formed.l0 kq l0 (l0.length : Int) x9_1 = some r) ∧ Aside0 (kq ≤ k) ∧ Aside0 (Below w.heap.size w w'))
 case atStart => exact ⟨(0), sr_, H', ⟨Nat.le_refl _⟩, ⟨bl_ HB.out⟩⟩
 case round =>
  clear H'; obtain ⟨x9_1, rfl, HA, HK1, HB⟩ := hrel; obtain _ | k1 := gk
  · exact absurd HA.out (by simp [parser_formed.l0])
  have H := HA.out; clear HA; simp only [parser_formed.l0] at H; replace H := (sd_ H).symm; obtain ⟨c2b0, H⟩ | ⟨c2b0, H⟩ := H
  ·
   obtain rfl := Option.some.inj H
   go_wp2
   go_ret
   exact ⟨er_, bl_ HB.out⟩
  replace H := gd_ H; obtain ⟨c3b0, H⟩ := H; replace H := gd_ H; obtain ⟨c4b0, H⟩ := H; replace H := bn_ H; obtain ⟨t190, A5, H⟩ := H; (try dsimp only at H); replace H := (sb_ H).symm; obtain ⟨rfl, H⟩ | ⟨rfl, H⟩ := H
  ·
   obtain rfl := Option.some.inj H; have p188 : 0 ≤ (x9_1 : Int) := dt_; have q188 : x9_1 < (l0.length : Int) := dt_; obtain ⟨ad188, A188_1, c188_1, A188_3, c188_3, e188, hx188_0, hx188_1, hx188_2, hx188_3, hx188_4, hl188_1, hi188_1, hl188_3, hi188_3⟩ := at_T41 HR0.out x9_1 p188 q188; cases e188; replace hx188_0 := pw_cell_below HB.out hx188_0; replace hx188_1 := pw_cell_below HB.out hx188_1; replace hx188_2 := pw_cell_below HB.out hx188_2; replace hx188_3 := pw_cell_below HB.out hx188_3; replace hx188_4 := pw_cell_below HB.out hx188_4; have HR188_1 := Aside0.mk hi188_1; have HC188_1 := Aside0.mk hl188_1; clear hi188_1 hl188_1; have HR188_3 := Aside0.mk hi188_3; have HC188_3 := Aside0.mk hl188_3; clear hi188_3 hl188_3; replace p188 := eq_true p188; replace q188 := eq_true q188
   go_wp2_with (first | ((with_reducible refine gate_dst (N := 4) rfl ?_); (try (refine gate_guard (by rfl) ?_; dsimp only)); refine bx_ (N := 4) (cs := #[.string (⟨#[]⟩ : ByteArray), .slice none 0 0, .bool false, .slice none 0 0, .int .i64 0]) (t := 25) ?_; intro gb189 hg w80 hbox hb; refine cut4_ (below_step (bl_ HB.out) hb) (hbox) (bz_ (w := w) hg (bl_ HB.out)) (bz_ (w := w) hg (bl_ HB.out)) ?_; clear HB; intro HB BK189 GW189 GE189; clear hb hbox hg; obtain ⟨hcz81_0, hcz81_1, hcz81_2, hcz81_3, hcz81_4, hfz81_0, hfz81_1, hfz81_2, hfz81_3, hfz81_4⟩ := cq5_ BK189.out) | ((with_reducible refine gate_callee (f := 58) rfl ?_); refine gk_ (some 16) Tryz.func58 (lexer_Valid.calls k1 1 ((rd_T41 l0 x9_1).f0) 0 0 false _ A5.out) ?_; rintro e w82 ⟨rfl, hb⟩; refine ⟨_, rfl, ?_⟩; refine cut2_ (blk_below (g := gb189) (o := .cells #[.string ((rd_T41 l0 x9_1).f0), .slice A188_1 ((rd_T41 l0 x9_1).f1).length c188_1, .bool ((rd_T41 l0 x9_1).f2), .slice A188_3 ((rd_T41 l0 x9_1).f3).length c188_3, .int .i64 ((rd_T41 l0 x9_1).f4)] 25 (0, 0)) (put5_ (bk_ BK189.out)) hb) (below_step (bl1_ HB.out GE189.out) hb) ?_; clear hb BK189 HB; intro BK189 HB))
   go_ret
   exact ⟨er_, bl1_ HB.out GE189.out⟩
  obtain ⟨bq7, hbq7⟩ : ∃ b_ : Bool, b_ = ((rd_T41 l0 x9_1).f2) := ⟨_, rfl⟩; replace H : (if (bq7 = true) then (parser_formed.l1 k1 l0 (l0.length : Int) x9_1 ((rd_T41 l0 x9_1).f1) (((rd_T41 l0 x9_1).f1).length : Int) 0 ((rd_T41 l0 x9_1).f0) ((rd_T41 l0 x9_1).f1) bq7 ((rd_T41 l0 x9_1).f3) ((rd_T41 l0 x9_1).f4)) else (if (((rd_T41 l0 x9_1).f3).length : Int) > 0 then (some false) else (parser_formed.l1 k1 l0 (l0.length : Int) x9_1 ((rd_T41 l0 x9_1).f1) (((rd_T41 l0 x9_1).f1).length : Int) 0 ((rd_T41 l0 x9_1).f0) ((rd_T41 l0 x9_1).f1) bq7 ((rd_T41 l0 x9_1).f3) ((rd_T41 l0 x9_1).f4)))) = some r := by rw [← hbq7] at H; exact H
  have Nbq7 := Aside0.mk hbq7; clear hbq7
  by_cases c8 : (bq7 = true)
  ·
   subst c8; have H1 : (parser_formed.l1 k1 l0 (l0.length : Int) x9_1 ((rd_T41 l0 x9_1).f1) (((rd_T41 l0 x9_1).f1).length : Int) 0 ((rd_T41 l0 x9_1).f0) ((rd_T41 l0 x9_1).f1) true ((rd_T41 l0 x9_1).f3) ((rd_T41 l0 x9_1).f4)) = some r := by rw [if_pos rfl] at H; exact H
   clear H; have H := H1; clear H1; have H' := Aside0.mk H; clear H; have p188 : 0 ≤ (x9_1 : Int) := dt_; have q188 : x9_1 < (l0.length : Int) := dt_; obtain ⟨ad188, A188_1, c188_1, A188_3, c188_3, e188, hx188_0, hx188_1, hx188_2, hx188_3, hx188_4, hl188_1, hi188_1, hl188_3, hi188_3⟩ := at_T41 HR0.out x9_1 p188 q188; (try rw [← Nbq7.out] at hx188_2); cases e188; replace hx188_0 := pw_cell_below HB.out hx188_0; replace hx188_1 := pw_cell_below HB.out hx188_1; replace hx188_2 := pw_cell_below HB.out hx188_2; replace hx188_3 := pw_cell_below HB.out hx188_3; replace hx188_4 := pw_cell_below HB.out hx188_4; have HR188_1 := Aside0.mk hi188_1; have HC188_1 := Aside0.mk hl188_1; clear hi188_1 hl188_1; have HR188_3 := Aside0.mk hi188_3; have HC188_3 := Aside0.mk hl188_3; clear hi188_3 hl188_3; replace p188 := eq_true p188; replace q188 := eq_true q188
   go_wp2_with (first | ((with_reducible refine gate_dst (N := 4) rfl ?_); (try (refine gate_guard (by rfl) ?_; dsimp only)); refine bx_ (N := 4) (cs := #[.string (⟨#[]⟩ : ByteArray), .slice none 0 0, .bool false, .slice none 0 0, .int .i64 0]) (t := 25) ?_; intro gb189 hg w9 hbox hb; refine cut4_ (below_step (bl_ HB.out) hb) (hbox) (bz_ (w := w) hg (bl_ HB.out)) (bz_ (w := w) hg (bl_ HB.out)) ?_; clear HB; intro HB BK189 GW189 GE189; clear hb hbox hg; obtain ⟨hcz10_0, hcz10_1, hcz10_2, hcz10_3, hcz10_4, hfz10_0, hfz10_1, hfz10_2, hfz10_3, hfz10_4⟩ := cq5_ BK189.out) | ((with_reducible refine gate_callee (f := 58) rfl ?_); refine gk_ (some 16) Tryz.func58 (lexer_Valid.calls k1 1 ((rd_T41 l0 x9_1).f0) 0 0 true _ A5.out) ?_; rintro e w11 ⟨rfl, hb⟩; refine ⟨_, rfl, ?_⟩; refine cut2_ (blk_below (g := gb189) (o := .cells #[.string ((rd_T41 l0 x9_1).f0), .slice A188_1 ((rd_T41 l0 x9_1).f1).length c188_1, .bool true, .slice A188_3 ((rd_T41 l0 x9_1).f3).length c188_3, .int .i64 ((rd_T41 l0 x9_1).f4)] 25 (0, 0)) (put5_ (bk_ BK189.out)) hb) (below_step (bl1_ HB.out GE189.out) hb) ?_; clear hb BK189 HB; intro BK189 HB; obtain ⟨hcz12_0, hcz12_1, hcz12_2, hcz12_3, hcz12_4, hfz12_0, hfz12_1, hfz12_2, hfz12_3, hfz12_4⟩ := cq5_ BK189.out))
   go_loopg [32] k1 (fun kq v32 w' => ∃ (x32_2 : Int), v32 = .int .i64 x32_2 ∧ Aside0 (parser_formed.l1 kq l0 (l0.length : Int) x9_1 ((rd_T41 l0 x9_1).f1) (((rd_T41 l0 x9_1).f1).length : Int) x32_2 ((rd_T41 l0 x9_1).f0) ((rd_T41 l0 x9_1).f1) true ((rd_T41 l0 x9_1).f3) ((rd_T41 l0 x9_1).f4) = some r) ∧ Aside0 (kq ≤ k1) ∧ Aside0 (w'.heap[gb189]? = some (.cells #[.string ((rd_T41 l0 x9_1).f0), (.slice A188_1 ((rd_T41 l0 x9_1).f1).length c188_1), .bool true, (.slice A188_3 ((rd_T41 l0 x9_1).f3).length c188_3), .int .i64 ((rd_T41 l0 x9_1).f4)] 25 (0, 0))) ∧ Aside0 (Below w.heap.size w w'))
   case atStart => exact ⟨(0), sr_, H', ⟨Nat.le_refl _⟩, ⟨bk_ BK189.out⟩, ⟨bl1_ HB.out GE189.out⟩⟩
   case round =>
    clear H'; (try clear c2); (try clear c2b0); (try clear c3); (try clear c3b0); (try clear c4); (try clear c4b0); (try clear c6); (try clear c8); (try clear hcz10_0); (try clear hcz10_1); (try clear hcz10_2); (try clear hcz10_3); (try clear hcz10_4); (try clear hcz12_0); (try clear hcz12_1); (try clear hcz12_2); (try clear hcz12_3); (try clear hcz12_4); (try clear hfz10_0); (try clear hfz10_1); (try clear hfz10_2); (try clear hfz10_3); (try clear hfz10_4); (try clear hfz12_0); (try clear hfz12_1); (try clear hfz12_2); (try clear hfz12_3); (try clear hfz12_4); (try clear hx188_0); (try clear hx188_1); (try clear hx188_2); (try clear hx188_3); (try clear hx188_4); (try clear p188); (try clear q188); obtain ⟨x32_2, rfl, HA, HK2, BK189, HB⟩ := hrel; obtain _ | k2 := gk
    · exact absurd HA.out (by simp [parser_formed.l1])
    have H := HA.out; clear HA; simp only [parser_formed.l1] at H; replace H := (sd_ H).symm; obtain ⟨c13b0, H⟩ | ⟨c13b0, H⟩ := H
    ·
     replace H := bn_ H; obtain ⟨t195, A36, H⟩ := H; (try dsimp only at H); replace H := (sb_ H).symm; obtain ⟨rfl, H⟩ | ⟨rfl, H⟩ := H
     ·
      obtain rfl := Option.some.inj H; obtain ⟨hcz40_0, hcz40_1, hcz40_2, hcz40_3, hcz40_4, hfz40_0, hfz40_1, hfz40_2, hfz40_3, hfz40_4⟩ := cq5_ BK189.out
      go_wp2_with (first | ((with_reducible refine gate_callee (f := 39) rfl ?_); refine gk_ (some 47) Tryz.func39 (ih k2 (by have := HK1.out; have := HK2.out; omega) _ _ ((rd_T41 l0 x9_1).f3) false _ ?side1 ?side2 A36.out) ?_; (case side1 => repeat (first | exact (Kd.C_below HR188_3.out HB.out) | (with_reducible refine Kd.C_alloc ?_ _) | (with_reducible refine Kd.C_drewN ?_ _) | (with_reducible refine Kd.C_drew ?_))); (case side2 => exact HC188_3.out); rintro e w41 ⟨rfl, hb⟩; refine ⟨_, rfl, ?_⟩; refine cut2_ (bb_ BK189.out hb) (below_step (bl1_ HB.out GE189.out) hb) ?_; clear hb BK189 HB; intro BK189 HB))
      go_ret
      exact ⟨er_, bl1_ HB.out GE189.out⟩
     have H' := Aside0.mk H; clear H; obtain ⟨hcz38_0, hcz38_1, hcz38_2, hcz38_3, hcz38_4, hfz38_0, hfz38_1, hfz38_2, hfz38_3, hfz38_4⟩ := cq5_ BK189.out
     go_wp2_with (first | ((with_reducible refine gate_callee (f := 39) rfl ?_); refine gk_ (some 47) Tryz.func39 (ih k2 (by have := HK1.out; have := HK2.out; omega) _ _ ((rd_T41 l0 x9_1).f3) true _ ?side1 ?side2 A36.out) ?_; (case side1 => repeat (first | exact (Kd.C_below HR188_3.out HB.out) | (with_reducible refine Kd.C_alloc ?_ _) | (with_reducible refine Kd.C_drewN ?_ _) | (with_reducible refine Kd.C_drew ?_))); (case side2 => exact HC188_3.out); rintro e w39 ⟨rfl, hb⟩; refine ⟨_, rfl, ?_⟩; refine cut2_ (bb_ BK189.out hb) (below_step (bl1_ HB.out GE189.out) hb) ?_; clear hb BK189 HB; intro BK189 HB))
     go_roundg k2
     case measure => have := HK1.out; have := HK2.out; omega
     case rel => exact ⟨(wrap64 (x9_1 + 1)), sr_, H', ⟨by have := HK1.out; have := HK2.out; omega⟩, ⟨bl1_ HB.out GE189.out⟩⟩
    replace H := gd_ H; obtain ⟨c14b0, H⟩ := H; replace H := gd_ H; obtain ⟨c15b0, H⟩ := H; replace H := bn_ H; obtain ⟨t193, A16, H⟩ := H; (try dsimp only at H); replace H := (sb_ H).symm; obtain ⟨rfl, H⟩ | ⟨rfl, H⟩ := H
    ·
     obtain rfl := Option.some.inj H; have p191 : 0 ≤ (x32_2 : Int) := dt_; have q191 : x32_2 < (((rd_T41 l0 x9_1).f1).length : Int) := dt_; obtain ⟨ad191, e191, hx191_0, hx191_1, hx191_2, hx191_3⟩ := at_T46 HR188_1.out x32_2 p191 q191; cases e191; replace hx191_0 := pw_cell_below HB.out hx191_0; replace hx191_1 := pw_cell_below HB.out hx191_1; replace hx191_2 := pw_cell_below HB.out hx191_2; replace hx191_3 := pw_cell_below HB.out hx191_3; replace p191 := eq_true p191; replace q191 := eq_true q191
     go_wp2_with (first | ((with_reducible refine gate_dst (N := 6) rfl ?_); (try (refine gate_guard (by rfl) ?_; dsimp only)); refine bx_ (N := 6) (cs := #[.int .i64 0, .string (⟨#[]⟩ : ByteArray), .int .i64 0, .int .i64 0]) (t := 50) ?_; intro gb192 hg w32 hbox hb; refine cut7_ (bb_ BK189.out hb) (below_step (bl1_ HB.out GE189.out) hb) (hbox) (bz_ (w := w) hg (bl1_ HB.out GE189.out)) (bz_ (w := w) hg (bl1_ HB.out GE189.out)) (nl_ hg BK189.out) (ng_ hg BK189.out) ?_; clear BK189 HB; intro BK189 HB BK192 GW192 GE192 NB189_192 NB192_189; clear hb hbox hg; have hnb33 := NB192_189.out; have hnc33 := NB189_192.out; obtain ⟨hcz34_0, hcz34_1, hcz34_2, hcz34_3, hfz34_0, hfz34_1, hfz34_2, hfz34_3⟩ := cq4_ BK192.out) | ((with_reducible refine gate_callee (f := 59) rfl ?_); refine gk_ (some 37) Tryz.func59 (parser_atom.calls ((rd_T46 ((rd_T41 l0 x9_1).f1) x32_2).f0) ((rd_T46 ((rd_T41 l0 x9_1).f1) x32_2).f1) ((rd_T46 ((rd_T41 l0 x9_1).f1) x32_2).f2) ((rd_T46 ((rd_T41 l0 x9_1).f1) x32_2).f3) false _ A16.out) ?_; rintro e w35 ⟨rfl, hb⟩; refine ⟨_, rfl, ?_⟩; refine cut3_ (blk_below (g := gb189) (o := .cells #[.string ((rd_T41 l0 x9_1).f0), .slice (some ad191) ((rd_T41 l0 x9_1).f1).length c188_1, .bool true, .slice A188_3 ((rd_T41 l0 x9_1).f3).length c188_3, .int .i64 ((rd_T41 l0 x9_1).f4)] 25 (0, 0)) (far4_ (bk_ BK189.out) NB189_192.out) hb) (blk_below (g := gb192) (o := .cells #[.int .i64 ((rd_T46 ((rd_T41 l0 x9_1).f1) x32_2).f0), .string ((rd_T46 ((rd_T41 l0 x9_1).f1) x32_2).f1), .int .i64 ((rd_T46 ((rd_T41 l0 x9_1).f1) x32_2).f2), .int .i64 ((rd_T46 ((rd_T41 l0 x9_1).f1) x32_2).f3)] 50 (0, 0)) (put4_ (bk_ BK192.out)) hb) (below_step (bl2_ HB.out GE189.out GE192.out) hb) ?_; clear hb BK189 BK192 HB; intro BK189 BK192 HB))
     go_ret
     exact ⟨er_, bl2_ HB.out GE189.out GE192.out⟩
    replace H := bn_ H; obtain ⟨t194, A18, H⟩ := H; (try dsimp only at H); replace H := (sb_ H).symm; obtain ⟨rfl, H⟩ | ⟨rfl, H⟩ := H
    ·
     obtain rfl := Option.some.inj H; have p191 : 0 ≤ (x32_2 : Int) := dt_; have q191 : x32_2 < (((rd_T41 l0 x9_1).f1).length : Int) := dt_; obtain ⟨ad191, e191, hx191_0, hx191_1, hx191_2, hx191_3⟩ := at_T46 HR188_1.out x32_2 p191 q191; cases e191; replace hx191_0 := pw_cell_below HB.out hx191_0; replace hx191_1 := pw_cell_below HB.out hx191_1; replace hx191_2 := pw_cell_below HB.out hx191_2; replace hx191_3 := pw_cell_below HB.out hx191_3; replace p191 := eq_true p191; replace q191 := eq_true q191
     go_wp2_with (first | ((with_reducible refine gate_dst (N := 6) rfl ?_); (try (refine gate_guard (by rfl) ?_; dsimp only)); refine bx_ (N := 6) (cs := #[.int .i64 0, .string (⟨#[]⟩ : ByteArray), .int .i64 0, .int .i64 0]) (t := 50) ?_; intro gb192 hg w26 hbox hb; refine cut7_ (bb_ BK189.out hb) (below_step (bl1_ HB.out GE189.out) hb) (hbox) (bz_ (w := w) hg (bl1_ HB.out GE189.out)) (bz_ (w := w) hg (bl1_ HB.out GE189.out)) (nl_ hg BK189.out) (ng_ hg BK189.out) ?_; clear BK189 HB; intro BK189 HB BK192 GW192 GE192 NB189_192 NB192_189; clear hb hbox hg; have hnb27 := NB192_189.out; have hnc27 := NB189_192.out; obtain ⟨hcz28_0, hcz28_1, hcz28_2, hcz28_3, hfz28_0, hfz28_1, hfz28_2, hfz28_3⟩ := cq4_ BK192.out) | ((with_reducible refine gate_callee (f := 59) rfl ?_); refine gk_ (some 37) Tryz.func59 (parser_atom.calls ((rd_T46 ((rd_T41 l0 x9_1).f1) x32_2).f0) ((rd_T46 ((rd_T41 l0 x9_1).f1) x32_2).f1) ((rd_T46 ((rd_T41 l0 x9_1).f1) x32_2).f2) ((rd_T46 ((rd_T41 l0 x9_1).f1) x32_2).f3) true _ A16.out) ?_; rintro e w29 ⟨rfl, hb⟩; refine ⟨_, rfl, ?_⟩; refine cut3_ (blk_below (g := gb189) (o := .cells #[.string ((rd_T41 l0 x9_1).f0), .slice (some ad191) ((rd_T41 l0 x9_1).f1).length c188_1, .bool true, .slice A188_3 ((rd_T41 l0 x9_1).f3).length c188_3, .int .i64 ((rd_T41 l0 x9_1).f4)] 25 (0, 0)) (far4_ (bk_ BK189.out) NB189_192.out) hb) (blk_below (g := gb192) (o := .cells #[.int .i64 ((rd_T46 ((rd_T41 l0 x9_1).f1) x32_2).f0), .string ((rd_T46 ((rd_T41 l0 x9_1).f1) x32_2).f1), .int .i64 ((rd_T46 ((rd_T41 l0 x9_1).f1) x32_2).f2), .int .i64 ((rd_T46 ((rd_T41 l0 x9_1).f1) x32_2).f3)] 50 (0, 0)) (put4_ (bk_ BK192.out)) hb) (below_step (bl2_ HB.out GE189.out GE192.out) hb) ?_; clear hb BK189 BK192 HB; intro BK189 BK192 HB; obtain ⟨hcz30_0, hcz30_1, hcz30_2, hcz30_3, hfz30_0, hfz30_1, hfz30_2, hfz30_3⟩ := cq4_ BK192.out) | (go_at_call 58; (with_reducible refine (lexer_Valid.calls k2 ((rd_T46 ((rd_T41 l0 x9_1).f1) x32_2).f0) ((rd_T46 ((rd_T41 l0 x9_1).f1) x32_2).f1) ((rd_T46 ((rd_T41 l0 x9_1).f1) x32_2).f2) ((rd_T46 ((rd_T41 l0 x9_1).f1) x32_2).f3) false _ A18.out).mono ?_); rintro e w31 ⟨rfl, hb⟩; refine cut3_ (bb_ BK189.out hb) (bb_ BK192.out hb) (below_step (bl2_ HB.out GE189.out GE192.out) hb) ?_; clear BK189 BK192 HB; intro BK189 BK192 HB; (try clear hb); (try clear hb2); (try clear hk); (try clear hi)))
     go_ret
     exact ⟨er_, bl2_ HB.out GE189.out GE192.out⟩
    have H' := Aside0.mk H; clear H; have p191 : 0 ≤ (x32_2 : Int) := dt_; have q191 : x32_2 < (((rd_T41 l0 x9_1).f1).length : Int) := dt_; obtain ⟨ad191, e191, hx191_0, hx191_1, hx191_2, hx191_3⟩ := at_T46 HR188_1.out x32_2 p191 q191; cases e191; replace hx191_0 := pw_cell_below HB.out hx191_0; replace hx191_1 := pw_cell_below HB.out hx191_1; replace hx191_2 := pw_cell_below HB.out hx191_2; replace hx191_3 := pw_cell_below HB.out hx191_3; replace p191 := eq_true p191; replace q191 := eq_true q191
    go_wp2_with (first | ((with_reducible refine gate_dst (N := 6) rfl ?_); (try (refine gate_guard (by rfl) ?_; dsimp only)); refine bx_ (N := 6) (cs := #[.int .i64 0, .string (⟨#[]⟩ : ByteArray), .int .i64 0, .int .i64 0]) (t := 50) ?_; intro gb192 hg w20 hbox hb; refine cut7_ (bb_ BK189.out hb) (below_step (bl1_ HB.out GE189.out) hb) (hbox) (bz_ (w := w) hg (bl1_ HB.out GE189.out)) (bz_ (w := w) hg (bl1_ HB.out GE189.out)) (nl_ hg BK189.out) (ng_ hg BK189.out) ?_; clear BK189 HB; intro BK189 HB BK192 GW192 GE192 NB189_192 NB192_189; clear hb hbox hg; have hnb21 := NB192_189.out; have hnc21 := NB189_192.out; obtain ⟨hcz22_0, hcz22_1, hcz22_2, hcz22_3, hfz22_0, hfz22_1, hfz22_2, hfz22_3⟩ := cq4_ BK192.out) | ((with_reducible refine gate_callee (f := 59) rfl ?_); refine gk_ (some 37) Tryz.func59 (parser_atom.calls ((rd_T46 ((rd_T41 l0 x9_1).f1) x32_2).f0) ((rd_T46 ((rd_T41 l0 x9_1).f1) x32_2).f1) ((rd_T46 ((rd_T41 l0 x9_1).f1) x32_2).f2) ((rd_T46 ((rd_T41 l0 x9_1).f1) x32_2).f3) true _ A16.out) ?_; rintro e w23 ⟨rfl, hb⟩; refine ⟨_, rfl, ?_⟩; refine cut3_ (blk_below (g := gb189) (o := .cells #[.string ((rd_T41 l0 x9_1).f0), .slice (some ad191) ((rd_T41 l0 x9_1).f1).length c188_1, .bool true, .slice A188_3 ((rd_T41 l0 x9_1).f3).length c188_3, .int .i64 ((rd_T41 l0 x9_1).f4)] 25 (0, 0)) (far4_ (bk_ BK189.out) NB189_192.out) hb) (blk_below (g := gb192) (o := .cells #[.int .i64 ((rd_T46 ((rd_T41 l0 x9_1).f1) x32_2).f0), .string ((rd_T46 ((rd_T41 l0 x9_1).f1) x32_2).f1), .int .i64 ((rd_T46 ((rd_T41 l0 x9_1).f1) x32_2).f2), .int .i64 ((rd_T46 ((rd_T41 l0 x9_1).f1) x32_2).f3)] 50 (0, 0)) (put4_ (bk_ BK192.out)) hb) (below_step (bl2_ HB.out GE189.out GE192.out) hb) ?_; clear hb BK189 BK192 HB; intro BK189 BK192 HB; obtain ⟨hcz24_0, hcz24_1, hcz24_2, hcz24_3, hfz24_0, hfz24_1, hfz24_2, hfz24_3⟩ := cq4_ BK192.out) | (go_at_call 58; (with_reducible refine (lexer_Valid.calls k2 ((rd_T46 ((rd_T41 l0 x9_1).f1) x32_2).f0) ((rd_T46 ((rd_T41 l0 x9_1).f1) x32_2).f1) ((rd_T46 ((rd_T41 l0 x9_1).f1) x32_2).f2) ((rd_T46 ((rd_T41 l0 x9_1).f1) x32_2).f3) true _ A18.out).mono ?_); rintro e w25 ⟨rfl, hb⟩; refine cut3_ (bb_ BK189.out hb) (bb_ BK192.out hb) (below_step (bl2_ HB.out GE189.out GE192.out) hb) ?_; clear BK189 BK192 HB; intro BK189 BK192 HB; (try clear hb); (try clear hb2); (try clear hk); (try clear hi)))
    go_roundg k2
    case measure => have := HK1.out; have := HK2.out; omega
    case rel => exact ⟨(wrap64 (x32_2 + 1)), sr_, H', ⟨by have := HK1.out; have := HK2.out; omega⟩, ⟨bk_ BK189.out⟩, ⟨bl2_ HB.out GE189.out GE192.out⟩⟩
  replace c8 := Bool.eq_false_iff.mpr c8; subst c8; have H1 : (if (((rd_T41 l0 x9_1).f3).length : Int) > 0 then (some false) else (parser_formed.l1 k1 l0 (l0.length : Int) x9_1 ((rd_T41 l0 x9_1).f1) (((rd_T41 l0 x9_1).f1).length : Int) 0 ((rd_T41 l0 x9_1).f0) ((rd_T41 l0 x9_1).f1) false ((rd_T41 l0 x9_1).f3) ((rd_T41 l0 x9_1).f4))) = some r := by rw [if_neg (show ¬ (false = true) by decide)] at H; exact H
  clear H; have H := H1; clear H1; replace H := sp_ H; obtain ⟨c42, H⟩ | ⟨c42, H⟩ := H
  ·
   have c42b0 := decide_eq_true c42; have c42b1 : decide (0 < ((rd_T41 l0 x9_1).f3).length) = true := decide_eq_true (by omega); clear c42; obtain rfl := Option.some.inj H; have p188 : 0 ≤ (x9_1 : Int) := dt_; have q188 : x9_1 < (l0.length : Int) := dt_; obtain ⟨ad188, A188_1, c188_1, A188_3, c188_3, e188, hx188_0, hx188_1, hx188_2, hx188_3, hx188_4, hl188_1, hi188_1, hl188_3, hi188_3⟩ := at_T41 HR0.out x9_1 p188 q188; (try rw [← Nbq7.out] at hx188_2); cases e188; replace hx188_0 := pw_cell_below HB.out hx188_0; replace hx188_1 := pw_cell_below HB.out hx188_1; replace hx188_2 := pw_cell_below HB.out hx188_2; replace hx188_3 := pw_cell_below HB.out hx188_3; replace hx188_4 := pw_cell_below HB.out hx188_4; have HR188_1 := Aside0.mk hi188_1; have HC188_1 := Aside0.mk hl188_1; clear hi188_1 hl188_1; have HR188_3 := Aside0.mk hi188_3; have HC188_3 := Aside0.mk hl188_3; clear hi188_3 hl188_3; replace p188 := eq_true p188; replace q188 := eq_true q188
   go_wp2_with (first | ((with_reducible refine gate_dst (N := 4) rfl ?_); (try (refine gate_guard (by rfl) ?_; dsimp only)); refine bx_ (N := 4) (cs := #[.string (⟨#[]⟩ : ByteArray), .slice none 0 0, .bool false, .slice none 0 0, .int .i64 0]) (t := 25) ?_; intro gb189 hg w43 hbox hb; refine cut4_ (below_step (bl_ HB.out) hb) (hbox) (bz_ (w := w) hg (bl_ HB.out)) (bz_ (w := w) hg (bl_ HB.out)) ?_; clear HB; intro HB BK189 GW189 GE189; clear hb hbox hg; obtain ⟨hcz44_0, hcz44_1, hcz44_2, hcz44_3, hcz44_4, hfz44_0, hfz44_1, hfz44_2, hfz44_3, hfz44_4⟩ := cq5_ BK189.out) | ((with_reducible refine gate_callee (f := 58) rfl ?_); refine gk_ (some 16) Tryz.func58 (lexer_Valid.calls k1 1 ((rd_T41 l0 x9_1).f0) 0 0 true _ A5.out) ?_; rintro e w45 ⟨rfl, hb⟩; refine ⟨_, rfl, ?_⟩; refine cut2_ (blk_below (g := gb189) (o := .cells #[.string ((rd_T41 l0 x9_1).f0), .slice A188_1 ((rd_T41 l0 x9_1).f1).length c188_1, .bool false, .slice A188_3 ((rd_T41 l0 x9_1).f3).length c188_3, .int .i64 ((rd_T41 l0 x9_1).f4)] 25 (0, 0)) (put5_ (bk_ BK189.out)) hb) (below_step (bl1_ HB.out GE189.out) hb) ?_; clear hb BK189 HB; intro BK189 HB; obtain ⟨hcz46_0, hcz46_1, hcz46_2, hcz46_3, hcz46_4, hfz46_0, hfz46_1, hfz46_2, hfz46_3, hfz46_4⟩ := cq5_ BK189.out))
   go_ret
   exact ⟨er_, bl1_ HB.out GE189.out⟩
  have c42b0 := decide_eq_false c42; have c42b1 : decide (0 < ((rd_T41 l0 x9_1).f3).length) = false := decide_eq_false (by omega); clear c42; have H' := Aside0.mk H; clear H; have p188 : 0 ≤ (x9_1 : Int) := dt_; have q188 : x9_1 < (l0.length : Int) := dt_; obtain ⟨ad188, A188_1, c188_1, A188_3, c188_3, e188, hx188_0, hx188_1, hx188_2, hx188_3, hx188_4, hl188_1, hi188_1, hl188_3, hi188_3⟩ := at_T41 HR0.out x9_1 p188 q188; (try rw [← Nbq7.out] at hx188_2); cases e188; replace hx188_0 := pw_cell_below HB.out hx188_0; replace hx188_1 := pw_cell_below HB.out hx188_1; replace hx188_2 := pw_cell_below HB.out hx188_2; replace hx188_3 := pw_cell_below HB.out hx188_3; replace hx188_4 := pw_cell_below HB.out hx188_4; have HR188_1 := Aside0.mk hi188_1; have HC188_1 := Aside0.mk hl188_1; clear hi188_1 hl188_1; have HR188_3 := Aside0.mk hi188_3; have HC188_3 := Aside0.mk hl188_3; clear hi188_3 hl188_3; replace p188 := eq_true p188; replace q188 := eq_true q188
  go_wp2_with (first | ((with_reducible refine gate_dst (N := 4) rfl ?_); (try (refine gate_guard (by rfl) ?_; dsimp only)); refine bx_ (N := 4) (cs := #[.string (⟨#[]⟩ : ByteArray), .slice none 0 0, .bool false, .slice none 0 0, .int .i64 0]) (t := 25) ?_; intro gb189 hg w47 hbox hb; refine cut4_ (below_step (bl_ HB.out) hb) (hbox) (bz_ (w := w) hg (bl_ HB.out)) (bz_ (w := w) hg (bl_ HB.out)) ?_; clear HB; intro HB BK189 GW189 GE189; clear hb hbox hg; obtain ⟨hcz48_0, hcz48_1, hcz48_2, hcz48_3, hcz48_4, hfz48_0, hfz48_1, hfz48_2, hfz48_3, hfz48_4⟩ := cq5_ BK189.out) | ((with_reducible refine gate_callee (f := 58) rfl ?_); refine gk_ (some 16) Tryz.func58 (lexer_Valid.calls k1 1 ((rd_T41 l0 x9_1).f0) 0 0 true _ A5.out) ?_; rintro e w49 ⟨rfl, hb⟩; refine ⟨_, rfl, ?_⟩; refine cut2_ (blk_below (g := gb189) (o := .cells #[.string ((rd_T41 l0 x9_1).f0), .slice A188_1 ((rd_T41 l0 x9_1).f1).length c188_1, .bool false, .slice A188_3 ((rd_T41 l0 x9_1).f3).length c188_3, .int .i64 ((rd_T41 l0 x9_1).f4)] 25 (0, 0)) (put5_ (bk_ BK189.out)) hb) (below_step (bl1_ HB.out GE189.out) hb) ?_; clear hb BK189 HB; intro BK189 HB; obtain ⟨hcz50_0, hcz50_1, hcz50_2, hcz50_3, hcz50_4, hfz50_0, hfz50_1, hfz50_2, hfz50_3, hfz50_4⟩ := cq5_ BK189.out))
  go_loopg [32] k1 (fun kq v32 w' => ∃ (x32_2 : Int), v32 = .int .i64 x32_2 ∧ Aside0 (parser_formed.l1 kq l0 (l0.length : Int) x9_1 ((rd_T41 l0 x9_1).f1) (((rd_T41 l0 x9_1).f1).length : Int) x32_2 ((rd_T41 l0 x9_1).f0) ((rd_T41 l0 x9_1).f1) false ((rd_T41 l0 x9_1).f3) ((rd_T41 l0 x9_1).f4) = some r) ∧ Aside0 (kq ≤ k1) ∧ Aside0 (w'.heap[gb189]? = some (.cells #[.string ((rd_T41 l0 x9_1).f0), (.slice A188_1 ((rd_T41 l0 x9_1).f1).length c188_1), .bool false, (.slice A188_3 ((rd_T41 l0 x9_1).f3).length c188_3), .int .i64 ((rd_T41 l0 x9_1).f4)] 25 (0, 0))) ∧ Aside0 (Below w.heap.size w w'))
  case atStart => exact ⟨(0), sr_, H', ⟨Nat.le_refl _⟩, ⟨bk_ BK189.out⟩, ⟨bl1_ HB.out GE189.out⟩⟩
  case round =>
   clear H'; (try clear c2); (try clear c2b0); (try clear c3); (try clear c3b0); (try clear c4); (try clear c4b0); (try clear c6); (try clear c8); (try clear c42); (try clear c42b0); (try clear c42b1); (try clear hcz48_0); (try clear hcz48_1); (try clear hcz48_2); (try clear hcz48_3); (try clear hcz48_4); (try clear hcz50_0); (try clear hcz50_1); (try clear hcz50_2); (try clear hcz50_3); (try clear hcz50_4); (try clear hfz48_0); (try clear hfz48_1); (try clear hfz48_2); (try clear hfz48_3); (try clear hfz48_4); (try clear hfz50_0); (try clear hfz50_1); (try clear hfz50_2); (try clear hfz50_3); (try clear hfz50_4); (try clear hx188_0); (try clear hx188_1); (try clear hx188_2); (try clear hx188_3); (try clear hx188_4); (try clear p188); (try clear q188); obtain ⟨x32_2, rfl, HA, HK2, BK189, HB⟩ := hrel; obtain _ | k2 := gk
   · exact absurd HA.out (by simp [parser_formed.l1])
   have H := HA.out; clear HA; simp only [parser_formed.l1] at H; replace H := (sd_ H).symm; obtain ⟨c51b0, H⟩ | ⟨c51b0, H⟩ := H
   ·
    replace H := bn_ H; obtain ⟨t195, A74, H⟩ := H; (try dsimp only at H); replace H := (sb_ H).symm; obtain ⟨rfl, H⟩ | ⟨rfl, H⟩ := H
    ·
     obtain rfl := Option.some.inj H; obtain ⟨hcz78_0, hcz78_1, hcz78_2, hcz78_3, hcz78_4, hfz78_0, hfz78_1, hfz78_2, hfz78_3, hfz78_4⟩ := cq5_ BK189.out
     go_wp2_with (first | ((with_reducible refine gate_callee (f := 39) rfl ?_); refine gk_ (some 47) Tryz.func39 (ih k2 (by have := HK1.out; have := HK2.out; omega) _ _ ((rd_T41 l0 x9_1).f3) false _ ?side1 ?side2 A74.out) ?_; (case side1 => repeat (first | exact (Kd.C_below HR188_3.out HB.out) | (with_reducible refine Kd.C_alloc ?_ _) | (with_reducible refine Kd.C_drewN ?_ _) | (with_reducible refine Kd.C_drew ?_))); (case side2 => exact HC188_3.out); rintro e w79 ⟨rfl, hb⟩; refine ⟨_, rfl, ?_⟩; refine cut2_ (bb_ BK189.out hb) (below_step (bl1_ HB.out GE189.out) hb) ?_; clear hb BK189 HB; intro BK189 HB))
     go_ret
     exact ⟨er_, bl1_ HB.out GE189.out⟩
    have H' := Aside0.mk H; clear H; obtain ⟨hcz76_0, hcz76_1, hcz76_2, hcz76_3, hcz76_4, hfz76_0, hfz76_1, hfz76_2, hfz76_3, hfz76_4⟩ := cq5_ BK189.out
    go_wp2_with (first | ((with_reducible refine gate_callee (f := 39) rfl ?_); refine gk_ (some 47) Tryz.func39 (ih k2 (by have := HK1.out; have := HK2.out; omega) _ _ ((rd_T41 l0 x9_1).f3) true _ ?side1 ?side2 A74.out) ?_; (case side1 => repeat (first | exact (Kd.C_below HR188_3.out HB.out) | (with_reducible refine Kd.C_alloc ?_ _) | (with_reducible refine Kd.C_drewN ?_ _) | (with_reducible refine Kd.C_drew ?_))); (case side2 => exact HC188_3.out); rintro e w77 ⟨rfl, hb⟩; refine ⟨_, rfl, ?_⟩; refine cut2_ (bb_ BK189.out hb) (below_step (bl1_ HB.out GE189.out) hb) ?_; clear hb BK189 HB; intro BK189 HB))
    go_roundg k2
    case measure => have := HK1.out; have := HK2.out; omega
    case rel => exact ⟨(wrap64 (x9_1 + 1)), sr_, H', ⟨by have := HK1.out; have := HK2.out; omega⟩, ⟨bl1_ HB.out GE189.out⟩⟩
   replace H := gd_ H; obtain ⟨c52b0, H⟩ := H; replace H := gd_ H; obtain ⟨c53b0, H⟩ := H; replace H := bn_ H; obtain ⟨t193, A54, H⟩ := H; (try dsimp only at H); replace H := (sb_ H).symm; obtain ⟨rfl, H⟩ | ⟨rfl, H⟩ := H
   ·
    obtain rfl := Option.some.inj H; have p191 : 0 ≤ (x32_2 : Int) := dt_; have q191 : x32_2 < (((rd_T41 l0 x9_1).f1).length : Int) := dt_; obtain ⟨ad191, e191, hx191_0, hx191_1, hx191_2, hx191_3⟩ := at_T46 HR188_1.out x32_2 p191 q191; cases e191; replace hx191_0 := pw_cell_below HB.out hx191_0; replace hx191_1 := pw_cell_below HB.out hx191_1; replace hx191_2 := pw_cell_below HB.out hx191_2; replace hx191_3 := pw_cell_below HB.out hx191_3; replace p191 := eq_true p191; replace q191 := eq_true q191
    go_wp2_with (first | ((with_reducible refine gate_dst (N := 6) rfl ?_); (try (refine gate_guard (by rfl) ?_; dsimp only)); refine bx_ (N := 6) (cs := #[.int .i64 0, .string (⟨#[]⟩ : ByteArray), .int .i64 0, .int .i64 0]) (t := 50) ?_; intro gb192 hg w70 hbox hb; refine cut7_ (bb_ BK189.out hb) (below_step (bl1_ HB.out GE189.out) hb) (hbox) (bz_ (w := w) hg (bl1_ HB.out GE189.out)) (bz_ (w := w) hg (bl1_ HB.out GE189.out)) (nl_ hg BK189.out) (ng_ hg BK189.out) ?_; clear BK189 HB; intro BK189 HB BK192 GW192 GE192 NB189_192 NB192_189; clear hb hbox hg; have hnb71 := NB192_189.out; have hnc71 := NB189_192.out; obtain ⟨hcz72_0, hcz72_1, hcz72_2, hcz72_3, hfz72_0, hfz72_1, hfz72_2, hfz72_3⟩ := cq4_ BK192.out) | ((with_reducible refine gate_callee (f := 59) rfl ?_); refine gk_ (some 37) Tryz.func59 (parser_atom.calls ((rd_T46 ((rd_T41 l0 x9_1).f1) x32_2).f0) ((rd_T46 ((rd_T41 l0 x9_1).f1) x32_2).f1) ((rd_T46 ((rd_T41 l0 x9_1).f1) x32_2).f2) ((rd_T46 ((rd_T41 l0 x9_1).f1) x32_2).f3) false _ A54.out) ?_; rintro e w73 ⟨rfl, hb⟩; refine ⟨_, rfl, ?_⟩; refine cut3_ (blk_below (g := gb189) (o := .cells #[.string ((rd_T41 l0 x9_1).f0), .slice (some ad191) ((rd_T41 l0 x9_1).f1).length c188_1, .bool false, .slice A188_3 ((rd_T41 l0 x9_1).f3).length c188_3, .int .i64 ((rd_T41 l0 x9_1).f4)] 25 (0, 0)) (far4_ (bk_ BK189.out) NB189_192.out) hb) (blk_below (g := gb192) (o := .cells #[.int .i64 ((rd_T46 ((rd_T41 l0 x9_1).f1) x32_2).f0), .string ((rd_T46 ((rd_T41 l0 x9_1).f1) x32_2).f1), .int .i64 ((rd_T46 ((rd_T41 l0 x9_1).f1) x32_2).f2), .int .i64 ((rd_T46 ((rd_T41 l0 x9_1).f1) x32_2).f3)] 50 (0, 0)) (put4_ (bk_ BK192.out)) hb) (below_step (bl2_ HB.out GE189.out GE192.out) hb) ?_; clear hb BK189 BK192 HB; intro BK189 BK192 HB))
    go_ret
    exact ⟨er_, bl2_ HB.out GE189.out GE192.out⟩
   replace H := bn_ H; obtain ⟨t194, A56, H⟩ := H; (try dsimp only at H); replace H := (sb_ H).symm; obtain ⟨rfl, H⟩ | ⟨rfl, H⟩ := H
   ·
    obtain rfl := Option.some.inj H; have p191 : 0 ≤ (x32_2 : Int) := dt_; have q191 : x32_2 < (((rd_T41 l0 x9_1).f1).length : Int) := dt_; obtain ⟨ad191, e191, hx191_0, hx191_1, hx191_2, hx191_3⟩ := at_T46 HR188_1.out x32_2 p191 q191; cases e191; replace hx191_0 := pw_cell_below HB.out hx191_0; replace hx191_1 := pw_cell_below HB.out hx191_1; replace hx191_2 := pw_cell_below HB.out hx191_2; replace hx191_3 := pw_cell_below HB.out hx191_3; replace p191 := eq_true p191; replace q191 := eq_true q191
    go_wp2_with (first | ((with_reducible refine gate_dst (N := 6) rfl ?_); (try (refine gate_guard (by rfl) ?_; dsimp only)); refine bx_ (N := 6) (cs := #[.int .i64 0, .string (⟨#[]⟩ : ByteArray), .int .i64 0, .int .i64 0]) (t := 50) ?_; intro gb192 hg w64 hbox hb; refine cut7_ (bb_ BK189.out hb) (below_step (bl1_ HB.out GE189.out) hb) (hbox) (bz_ (w := w) hg (bl1_ HB.out GE189.out)) (bz_ (w := w) hg (bl1_ HB.out GE189.out)) (nl_ hg BK189.out) (ng_ hg BK189.out) ?_; clear BK189 HB; intro BK189 HB BK192 GW192 GE192 NB189_192 NB192_189; clear hb hbox hg; have hnb65 := NB192_189.out; have hnc65 := NB189_192.out; obtain ⟨hcz66_0, hcz66_1, hcz66_2, hcz66_3, hfz66_0, hfz66_1, hfz66_2, hfz66_3⟩ := cq4_ BK192.out) | ((with_reducible refine gate_callee (f := 59) rfl ?_); refine gk_ (some 37) Tryz.func59 (parser_atom.calls ((rd_T46 ((rd_T41 l0 x9_1).f1) x32_2).f0) ((rd_T46 ((rd_T41 l0 x9_1).f1) x32_2).f1) ((rd_T46 ((rd_T41 l0 x9_1).f1) x32_2).f2) ((rd_T46 ((rd_T41 l0 x9_1).f1) x32_2).f3) true _ A54.out) ?_; rintro e w67 ⟨rfl, hb⟩; refine ⟨_, rfl, ?_⟩; refine cut3_ (blk_below (g := gb189) (o := .cells #[.string ((rd_T41 l0 x9_1).f0), .slice (some ad191) ((rd_T41 l0 x9_1).f1).length c188_1, .bool false, .slice A188_3 ((rd_T41 l0 x9_1).f3).length c188_3, .int .i64 ((rd_T41 l0 x9_1).f4)] 25 (0, 0)) (far4_ (bk_ BK189.out) NB189_192.out) hb) (blk_below (g := gb192) (o := .cells #[.int .i64 ((rd_T46 ((rd_T41 l0 x9_1).f1) x32_2).f0), .string ((rd_T46 ((rd_T41 l0 x9_1).f1) x32_2).f1), .int .i64 ((rd_T46 ((rd_T41 l0 x9_1).f1) x32_2).f2), .int .i64 ((rd_T46 ((rd_T41 l0 x9_1).f1) x32_2).f3)] 50 (0, 0)) (put4_ (bk_ BK192.out)) hb) (below_step (bl2_ HB.out GE189.out GE192.out) hb) ?_; clear hb BK189 BK192 HB; intro BK189 BK192 HB; obtain ⟨hcz68_0, hcz68_1, hcz68_2, hcz68_3, hfz68_0, hfz68_1, hfz68_2, hfz68_3⟩ := cq4_ BK192.out) | (go_at_call 58; (with_reducible refine (lexer_Valid.calls k2 ((rd_T46 ((rd_T41 l0 x9_1).f1) x32_2).f0) ((rd_T46 ((rd_T41 l0 x9_1).f1) x32_2).f1) ((rd_T46 ((rd_T41 l0 x9_1).f1) x32_2).f2) ((rd_T46 ((rd_T41 l0 x9_1).f1) x32_2).f3) false _ A56.out).mono ?_); rintro e w69 ⟨rfl, hb⟩; refine cut3_ (bb_ BK189.out hb) (bb_ BK192.out hb) (below_step (bl2_ HB.out GE189.out GE192.out) hb) ?_; clear BK189 BK192 HB; intro BK189 BK192 HB; (try clear hb); (try clear hb2); (try clear hk); (try clear hi)))
    go_ret
    exact ⟨er_, bl2_ HB.out GE189.out GE192.out⟩
   have H' := Aside0.mk H; clear H; have p191 : 0 ≤ (x32_2 : Int) := dt_; have q191 : x32_2 < (((rd_T41 l0 x9_1).f1).length : Int) := dt_; obtain ⟨ad191, e191, hx191_0, hx191_1, hx191_2, hx191_3⟩ := at_T46 HR188_1.out x32_2 p191 q191; cases e191; replace hx191_0 := pw_cell_below HB.out hx191_0; replace hx191_1 := pw_cell_below HB.out hx191_1; replace hx191_2 := pw_cell_below HB.out hx191_2; replace hx191_3 := pw_cell_below HB.out hx191_3; replace p191 := eq_true p191; replace q191 := eq_true q191
   go_wp2_with (first | ((with_reducible refine gate_dst (N := 6) rfl ?_); (try (refine gate_guard (by rfl) ?_; dsimp only)); refine bx_ (N := 6) (cs := #[.int .i64 0, .string (⟨#[]⟩ : ByteArray), .int .i64 0, .int .i64 0]) (t := 50) ?_; intro gb192 hg w58 hbox hb; refine cut7_ (bb_ BK189.out hb) (below_step (bl1_ HB.out GE189.out) hb) (hbox) (bz_ (w := w) hg (bl1_ HB.out GE189.out)) (bz_ (w := w) hg (bl1_ HB.out GE189.out)) (nl_ hg BK189.out) (ng_ hg BK189.out) ?_; clear BK189 HB; intro BK189 HB BK192 GW192 GE192 NB189_192 NB192_189; clear hb hbox hg; have hnb59 := NB192_189.out; have hnc59 := NB189_192.out; obtain ⟨hcz60_0, hcz60_1, hcz60_2, hcz60_3, hfz60_0, hfz60_1, hfz60_2, hfz60_3⟩ := cq4_ BK192.out) | ((with_reducible refine gate_callee (f := 59) rfl ?_); refine gk_ (some 37) Tryz.func59 (parser_atom.calls ((rd_T46 ((rd_T41 l0 x9_1).f1) x32_2).f0) ((rd_T46 ((rd_T41 l0 x9_1).f1) x32_2).f1) ((rd_T46 ((rd_T41 l0 x9_1).f1) x32_2).f2) ((rd_T46 ((rd_T41 l0 x9_1).f1) x32_2).f3) true _ A54.out) ?_; rintro e w61 ⟨rfl, hb⟩; refine ⟨_, rfl, ?_⟩; refine cut3_ (blk_below (g := gb189) (o := .cells #[.string ((rd_T41 l0 x9_1).f0), .slice (some ad191) ((rd_T41 l0 x9_1).f1).length c188_1, .bool false, .slice A188_3 ((rd_T41 l0 x9_1).f3).length c188_3, .int .i64 ((rd_T41 l0 x9_1).f4)] 25 (0, 0)) (far4_ (bk_ BK189.out) NB189_192.out) hb) (blk_below (g := gb192) (o := .cells #[.int .i64 ((rd_T46 ((rd_T41 l0 x9_1).f1) x32_2).f0), .string ((rd_T46 ((rd_T41 l0 x9_1).f1) x32_2).f1), .int .i64 ((rd_T46 ((rd_T41 l0 x9_1).f1) x32_2).f2), .int .i64 ((rd_T46 ((rd_T41 l0 x9_1).f1) x32_2).f3)] 50 (0, 0)) (put4_ (bk_ BK192.out)) hb) (below_step (bl2_ HB.out GE189.out GE192.out) hb) ?_; clear hb BK189 BK192 HB; intro BK189 BK192 HB; obtain ⟨hcz62_0, hcz62_1, hcz62_2, hcz62_3, hfz62_0, hfz62_1, hfz62_2, hfz62_3⟩ := cq4_ BK192.out) | (go_at_call 58; (with_reducible refine (lexer_Valid.calls k2 ((rd_T46 ((rd_T41 l0 x9_1).f1) x32_2).f0) ((rd_T46 ((rd_T41 l0 x9_1).f1) x32_2).f1) ((rd_T46 ((rd_T41 l0 x9_1).f1) x32_2).f2) ((rd_T46 ((rd_T41 l0 x9_1).f1) x32_2).f3) true _ A56.out).mono ?_); rintro e w63 ⟨rfl, hb⟩; refine cut3_ (bb_ BK189.out hb) (bb_ BK192.out hb) (below_step (bl2_ HB.out GE189.out GE192.out) hb) ?_; clear BK189 BK192 HB; intro BK189 BK192 HB; (try clear hb); (try clear hb2); (try clear hk); (try clear hi)))
   go_roundg k2
   case measure => have := HK1.out; have := HK2.out; omega
   case rel => exact ⟨(wrap64 (x32_2 + 1)), sr_, H', ⟨by have := HK1.out; have := HK2.out; omega⟩, ⟨bk_ BK189.out⟩, ⟨bl2_ HB.out GE189.out GE192.out⟩⟩
def parser_Check.f (k : Nat) (l0 : List (S41)) : Option (Int) := (parser_formed.f k l0).bind fun t196 => (if t196 = true then ((parser_Depth.f k l0).bind fun t197 => (if t197 > 8 then (some 6) else (some 0))) else (some 2))
theorem parser_Check.mono : ∀ a0 k, LeO (parser_Check.f k a0) (parser_Check.f (k + 1) a0) := by
 intro a0 k
 unfold parser_Check.f
 repeat' first
   | (with_reducible exact LeO.refl _)
   | exact parser_Depth.mono _ _
   | exact parser_formed.mono _ _
   | exact LeO.none _
   | refine LeO.ite ?_ ?_
   | refine LeO.bind ?_ (fun _ => ?_)
theorem parser_Check.calls (k : Nat) (A0 : Option Addr) (c0 : Nat) (l0 : List (S41)) (r : Int) (w : World) (hr0 : Kd.C k41 w A0 l0.length l0) (hc0 : l0.length ≤ c0) (h : parser_Check.f k l0 = some r) :
  Calls Tryz.prog 22 #[.slice A0 l0.length c0] w fun e w' => e = .returned (.int .i64 r) ∧ Below w.heap.size w w' := by
 have HR0 := Aside0.mk hr0; have HC0 := Aside0.mk hc0; clear hr0 hc0; have HB := Aside0.mk (Below.refl w.heap.size w); have H : ((parser_formed.f k l0).bind fun t196 => (if t196 = true then ((parser_Depth.f k l0).bind fun t197 => (if t197 > 8 then (some 6) else (some 0))) else (some 2))) = some r := h; clear h; replace H := bn_ H; obtain ⟨t196, A2, H⟩ := H; (try dsimp only at H); replace H := (sb_ H).symm; obtain ⟨rfl, H⟩ | ⟨rfl, H⟩ := H
 ·
  obtain rfl := Option.some.inj H
  go_enter Tryz.func22, Tryz.ntmps22
  go_wp2_with (first | ((with_reducible refine gate_callee (f := 39) rfl ?_); refine gk_ (some 5) Tryz.func39 (parser_formed.calls k _ _ l0 false _ ?side1 ?side2 A2.out) ?_; (case side1 => repeat (first | exact HR0.out | (with_reducible refine Kd.C_alloc ?_ _) | (with_reducible refine Kd.C_drewN ?_ _) | (with_reducible refine Kd.C_drew ?_))); (case side2 => exact HC0.out); rintro e w10 ⟨rfl, hb⟩; refine ⟨_, rfl, ?_⟩; refine cut1_ (below_step (bl_ HB.out) hb) ?_; clear hb HB; intro HB))
  go_ret
  exact ⟨er_, bl_ HB.out⟩
 replace H := bn_ H; obtain ⟨t197, A4, H⟩ := H; (try dsimp only at H); replace H := sd_ H; obtain ⟨c5b0, H⟩ | ⟨c5b0, H⟩ := H
 ·
  obtain rfl := Option.some.inj H
  go_enter Tryz.func22, Tryz.ntmps22
  go_wp2_with (first | ((with_reducible refine gate_callee (f := 39) rfl ?_); refine gk_ (some 5) Tryz.func39 (parser_formed.calls k _ _ l0 true _ ?side1 ?side2 A2.out) ?_; (case side1 => repeat (first | exact HR0.out | (with_reducible refine Kd.C_alloc ?_ _) | (with_reducible refine Kd.C_drewN ?_ _) | (with_reducible refine Kd.C_drew ?_))); (case side2 => exact HC0.out); rintro e w6 ⟨rfl, hb⟩; refine ⟨_, rfl, ?_⟩; refine cut1_ (below_step (bl_ HB.out) hb) ?_; clear hb HB; intro HB) | ((with_reducible refine gate_callee (f := 40) rfl ?_); refine gk_ (some 9) Tryz.func40 (parser_Depth.calls k _ _ l0 t197 _ ?side1 ?side2 A4.out) ?_; (case side1 => repeat (first | exact (Kd.C_below HR0.out HB.out) | (with_reducible refine Kd.C_alloc ?_ _) | (with_reducible refine Kd.C_drewN ?_ _) | (with_reducible refine Kd.C_drew ?_))); (case side2 => exact HC0.out); rintro e w7 ⟨rfl, hb⟩; refine ⟨_, rfl, ?_⟩; refine cut1_ (below_step (bl_ HB.out) hb) ?_; clear hb HB; intro HB))
  go_ret
  exact ⟨er_, bl_ HB.out⟩
 obtain rfl := Option.some.inj H
 go_enter Tryz.func22, Tryz.ntmps22
 go_wp2_with (first | ((with_reducible refine gate_callee (f := 39) rfl ?_); refine gk_ (some 5) Tryz.func39 (parser_formed.calls k _ _ l0 true _ ?side1 ?side2 A2.out) ?_; (case side1 => repeat (first | exact HR0.out | (with_reducible refine Kd.C_alloc ?_ _) | (with_reducible refine Kd.C_drewN ?_ _) | (with_reducible refine Kd.C_drew ?_))); (case side2 => exact HC0.out); rintro e w8 ⟨rfl, hb⟩; refine ⟨_, rfl, ?_⟩; refine cut1_ (below_step (bl_ HB.out) hb) ?_; clear hb HB; intro HB) | ((with_reducible refine gate_callee (f := 40) rfl ?_); refine gk_ (some 9) Tryz.func40 (parser_Depth.calls k _ _ l0 t197 _ ?side1 ?side2 A4.out) ?_; (case side1 => repeat (first | exact (Kd.C_below HR0.out HB.out) | (with_reducible refine Kd.C_alloc ?_ _) | (with_reducible refine Kd.C_drewN ?_ _) | (with_reducible refine Kd.C_drew ?_))); (case side2 => exact HC0.out); rintro e w9 ⟨rfl, hb⟩; refine ⟨_, rfl, ?_⟩; refine cut1_ (below_step (bl_ HB.out) hb) ?_; clear hb HB; intro HB))
 go_ret
 exact ⟨er_, bl_ HB.out⟩
end Go.Proofs.YtkifdadhojbohaaGreatDoor.Pr
namespace Go.Proofs.YtkifdadhojbohaaGreatDoor.Pu
open Go.RowKit Go.Proofs.YtkifdadhojbohaaGreatDoor Go.Proofs.YtkifdadhojbohaaGreatDoor.Pr Go.Proofs.YtkifdadhojbohaaGreatDoorW.PrintWords Go.Proofs.YtkifdadhojbohaaGreatDoorW.PrintLast Go.Proofs.YtkifdadhojbohaaGreatDoorW.PrintMore
theorem word_ok (s : ByteArray) (hs : s.size ≤ 900000) : Ev (fun k => lexer_Valid.f k 1 s 0 0) (validB 1 (lst s) 0) := valid_f 1 s (by omega) 0 0
theorem formed_f : ∀ l, szL l ≤ 900000 → AllC (txt 900000) l → Ev (fun k => parser_formed.f k l) (formL l) := by
  have loop : ∀ l, szL l ≤ 900000 → AllC (txt 900000) l → ∀ (A : List S41) (i : Nat), A.drop i = l → A.length ≤ 900000 → i ≤ A.length → Ev (fun k => parser_formed.l0 k A (A.length : Int) (i : Int)) (formL l) := by
    refine indL ?_ ?_
    · intro _ _ A i hA hn hi
      have : A.length ≤ i := by
        have := congrArg List.length hA
        rw [List.length_drop] at this
        simp at this; omega
      refine Ev.succ ?_
      simp only [parser_formed.l0]
      exact Ev.ifn (by omega) (Ev.ret (by simp [formL]))
    · intro c l h1 h2 hs hP A i hA hn hi
      rw [szL] at hs
      cases hP with
      | cons _ _ hc hk hr =>
      obtain ⟨hw, ha⟩ := hc
      obtain ⟨a1, a2, a3⟩ := rd41_at hA
      have hc := len_le c.f3
      have inner : ∀ (d j : Nat) (ats : List S46), c.f1.drop j = ats → j ≤ c.f1.length → c.f1.length - j = d →
          Ev (fun k => parser_formed.l1 k A (A.length : Int) (i : Int) c.f1 (c.f1.length : Int) (j : Int) c.f0 c.f1 c.f2 c.f3 c.f4) (ats.all okA && formL c.f3 && formL l) := by
        intro d
        induction d with
        | zero =>
          intro j ats hj hjl hd
          have e : ats = [] := by rw [← hj]; exact List.drop_eq_nil_of_le (by omega)
          subst e
          refine Ev.succ ?_
          simp only [parser_formed.l1]
          refine Ev.ifn (by omega) (Ev.bind (a := formL c.f3) ?_ ?_)
          · refine Ev.succ ?_
            simp only [parser_formed.f]
            exact h1 (by omega) hk c.f3 0 rfl (by omega) (by omega)
          · cases hf : formL c.f3 with
            | false => exact Ev.ifn (by simp) (Ev.ret (by simp))
            | true =>
              refine Ev.ifp rfl ?_
              rw [wrap_nat i (by omega)]
              simpa using h2 (by omega) hr A (i + 1) a3 hn (by omega)
        | succ d ih =>
          intro j ats hj hjl hd
          cases ats with
          | nil =>
            have := congrArg List.length hj
            rw [List.length_drop] at this
            simp at this; omega
          | cons a ats =>
            obtain ⟨b1, b2, b3⟩ := rd_at hj
            have hm : a ∈ c.f1 := List.mem_of_mem_drop (by rw [hj]; simp)
            refine Ev.succ ?_
            simp only [parser_formed.l1, b2, atom_f]
            rw [wrap_nat j (by omega)]
            refine Ev.ifp (by omega) (Ev.ifp natO (Ev.ifp (by omega) (Ev.val rfl ?_)))
            cases hA' : isA a with
            | false => exact Ev.ifn (by simp) (Ev.ret (by simp [okA, hA']))
            | true =>
              refine Ev.ifp rfl (Ev.bind (valid_f a.f0 a.f1 (by have := ha a hm; omega) a.f2 a.f3) ?_)
              cases hv : validB a.f0 (lst a.f1) a.f2 with
              | false => exact Ev.ifn (by simp) (Ev.ret (by simp [okA, hv]))
              | true =>
                refine Ev.ifp rfl ?_
                have := ih (j + 1) ats b3 (by omega) (by omega)
                simpa [okA, hA', hv] using this
      refine Ev.succ ?_
      simp only [parser_formed.l0, a2]
      refine Ev.ifp (by omega) (Ev.ifp natO (Ev.ifp (by omega) (Ev.bind (word_ok c.f0 hw) ?_)))
      rw [formL]
      cases hv : validB 1 (lst c.f0) 0 with
      | false => exact Ev.ifn (by simp) (Ev.ret (by simp))
      | true =>
        refine Ev.ifp rfl ?_
        have g := inner c.f1.length 0 c.f1 rfl (by omega) (by omega)
        by_cases hb : c.f2 = true
        · refine Ev.ifp hb ?_
          simpa [hb] using g
        · refine Ev.ifn hb ?_
          by_cases hz : ((c.f3).length : Int) > 0
          · refine Ev.ifp hz (Ev.ret ?_)
            have : c.f3 ≠ [] := by intro e; rw [e] at hz; simp at hz
            simp [hb, this]
          · refine Ev.ifn hz ?_
            have : c.f3 = [] := by
              cases h : c.f3 with
              | nil => rfl
              | cons _ _ => rw [h] at hz; simp at hz
            simpa [this] using g
  intro l hl hP
  have := len_le l
  refine Ev.succ ?_
  simp only [parser_formed.f]
  exact loop l hl hP l 0 rfl (by omega) (by omega)
theorem Check_f (l : List S41) (hl : szL l ≤ 900000) (hP : AllC (txt 900000) l) : Ev (fun k => parser_Check.f k l) (chkL l) := by
  unfold parser_Check.f chkL
  refine Ev.bind (formed_f l hl hP) ?_
  cases hf : formL l with
  | false => exact Ev.ifn (by simp) (Ev.ret (by simp))
  | true =>
    refine Ev.ifp rfl (Ev.bind (Depth_f l hl) ?_)
    by_cases h8 : 8 < depL l
    · exact Ev.ifp (by omega) (Ev.ret (by simp [h8]))
    · exact Ev.ifn (by omega) (Ev.ret (by simp [h8]))
end Go.Proofs.YtkifdadhojbohaaGreatDoor.Pu
namespace Go.Proofs.YtkifdadhojbohaaGreatDoor.Pr
open Go.Proofs.YtkifdadhojbohaaGreatDoor
open Go.RowKit Go.Proofs.YtkifdadhojbohaaGreatDoorW.PrintWords Go.Proofs.YtkifdadhojbohaaGreatDoorW.PrintLast Go.Proofs.YtkifdadhojbohaaGreatDoorW.PrintMore
attribute [local go_sem] max2_int min2_int max_two min_two max_three min_three max_four min_four   -- for this text's walks alone
set_option linter.unusedVariables false
set_option linter.unusedSimpArgs false
mutual
def salchowref10_room.l0 : Nat → List (S41) → Int → Int → Option (Int)
 | 0, _, _, _ => none
 | k + 1, x0, x1, x5 => if x5 < (x0.length : Int) then (salchowref10_room.j1 k x0 x1 x5 (decide (x1 ≥ 0))) else (salchowref10_room.j1 k x0 x1 x5 false)
def salchowref10_room.j1 : Nat → List (S41) → Int → Int → Bool → Option (Int)
 | 0, _, _, _, _ => none
 | k + 1, x0, x1, x5, x14 => if x14 = true then (if 0 ≤ x5 then (if x5 < (x0.length : Int) then (if (((rd_T41 x0 x5).f1).length : Int) > (wrap64 (x1 - 1)) then (salchowref10_room.j2 k x0 x1 x5 true) else (salchowref10_room.j2 k x0 x1 x5 (decide ((((rd_T41 x0 x5).f0).size : Int) > 200)))) else (none)) else (none)) else (some x1)
def salchowref10_room.j2 : Nat → List (S41) → Int → Int → Bool → Option (Int)
 | 0, _, _, _, _ => none
 | k + 1, x0, x1, x5, x34 => if x34 = true then (some (-1)) else (if 0 ≤ x5 then (if x5 < (x0.length : Int) then (salchowref10_room.l1 k x0 (wrap64 (x1 - (wrap64 (1 + (((rd_T41 x0 x5).f1).length : Int))))) x5 0) else (none)) else (none))
def salchowref10_room.l1 : Nat → List (S41) → Int → Int → Int → Option (Int)
 | 0, _, _, _, _ => none
 | k + 1, x0, x1, x5, x6 => if 0 ≤ x5 then (if x5 < (x0.length : Int) then (if x6 < (((rd_T41 x0 x5).f1).length : Int) then (if 0 ≤ x6 then (if (((rd_T46 ((rd_T41 x0 x5).f1) x6).f1).size : Int) > 200 then (some (-1)) else (salchowref10_room.l1 k x0 x1 x5 (wrap64 (x6 + 1)))) else (none)) else ((salchowref10_room.f k ((rd_T41 x0 x5).f3) x1).bind fun t571 => (salchowref10_room.l0 k x0 t571 (wrap64 (x5 + 1))))) else (none)) else (none)
def salchowref10_room.f : Nat → List (S41) → Int → Option (Int)
 | 0, _, _ => none
 | k + 1, l0, a1 => salchowref10_room.l0 k l0 a1 0
end
theorem salchowref10_room.mono_l : ∀ k, (∀ y0 y1, LeO (salchowref10_room.f k y0 y1) (salchowref10_room.f (k + 1) y0 y1)) ∧ (∀ y0 y1 y2, LeO (salchowref10_room.l0 k y0 y1 y2) (salchowref10_room.l0 (k + 1) y0 y1 y2)) ∧ (∀ y0 y1 y2 y3, LeO (salchowref10_room.j1 k y0 y1 y2 y3) (salchowref10_room.j1 (k + 1) y0 y1 y2 y3)) ∧ (∀ y0 y1 y2 y3, LeO (salchowref10_room.j2 k y0 y1 y2 y3) (salchowref10_room.j2 (k + 1) y0 y1 y2 y3)) ∧ (∀ y0 y1 y2 y3, LeO (salchowref10_room.l1 k y0 y1 y2 y3) (salchowref10_room.l1 (k + 1) y0 y1 y2 y3))
 | 0 => ⟨fun _ _ r h => by simp [salchowref10_room.f] at h, fun _ _ _ r h => by simp [salchowref10_room.l0] at h, fun _ _ _ _ r h => by simp [salchowref10_room.j1] at h, fun _ _ _ _ r h => by simp [salchowref10_room.j2] at h, fun _ _ _ _ r h => by simp [salchowref10_room.l1] at h⟩
 | k + 1 => by
  obtain ⟨ih0, ih1, ih2, ih3, ih4⟩ := salchowref10_room.mono_l k
  refine ⟨?_, ?_, ?_, ?_, ?_⟩
  ·
   intro y0 y1
   unfold salchowref10_room.f
   repeat' first
   | (with_reducible exact LeO.refl _)
   | exact ih0 _ _
   | exact ih1 _ _ _
   | exact ih2 _ _ _ _
   | exact ih3 _ _ _ _
   | exact ih4 _ _ _ _
   | exact LeO.none _
   | refine LeO.ite ?_ ?_
   | refine LeO.bind ?_ (fun _ => ?_)
  ·
   intro y0 y1 y2
   unfold salchowref10_room.l0
   repeat' first
   | (with_reducible exact LeO.refl _)
   | exact ih0 _ _
   | exact ih1 _ _ _
   | exact ih2 _ _ _ _
   | exact ih3 _ _ _ _
   | exact ih4 _ _ _ _
   | exact LeO.none _
   | refine LeO.ite ?_ ?_
   | refine LeO.bind ?_ (fun _ => ?_)
  ·
   intro y0 y1 y2 y3
   unfold salchowref10_room.j1
   repeat' first
   | (with_reducible exact LeO.refl _)
   | exact ih0 _ _
   | exact ih1 _ _ _
   | exact ih2 _ _ _ _
   | exact ih3 _ _ _ _
   | exact ih4 _ _ _ _
   | exact LeO.none _
   | refine LeO.ite ?_ ?_
   | refine LeO.bind ?_ (fun _ => ?_)
  ·
   intro y0 y1 y2 y3
   unfold salchowref10_room.j2
   repeat' first
   | (with_reducible exact LeO.refl _)
   | exact ih0 _ _
   | exact ih1 _ _ _
   | exact ih2 _ _ _ _
   | exact ih3 _ _ _ _
   | exact ih4 _ _ _ _
   | exact LeO.none _
   | refine LeO.ite ?_ ?_
   | refine LeO.bind ?_ (fun _ => ?_)
  ·
   intro y0 y1 y2 y3
   unfold salchowref10_room.l1
   repeat' first
   | (with_reducible exact LeO.refl _)
   | exact ih0 _ _
   | exact ih1 _ _ _
   | exact ih2 _ _ _ _
   | exact ih3 _ _ _ _
   | exact ih4 _ _ _ _
   | exact LeO.none _
   | refine LeO.ite ?_ ?_
   | refine LeO.bind ?_ (fun _ => ?_)
theorem salchowref10_room.mono : ∀ a0 a1 k, LeO (salchowref10_room.f k a0 a1) (salchowref10_room.f (k + 1) a0 a1) := by
 intro a0 a1 k
 obtain ⟨ih0, ih1, ih2, ih3, ih4⟩ := salchowref10_room.mono_l k
 exact ih0 a0 a1
theorem salchowref10_room.calls (k : Nat) : ∀ (A0 : Option Addr) (c0 : Nat) (l0 : List (S41)) (a1 : Int) (r : Int) (w : World) (hr0 : Kd.C k41 w A0 l0.length l0) (hc0 : l0.length ≤ c0) (h : salchowref10_room.f k l0 a1 = some r),
  Calls Tryz.prog 21 #[.slice A0 l0.length c0, .int .i64 a1] w fun e w' => e = .returned (.int .i64 r) ∧ Drawn0 w w' := by
 induction k using Nat.strongRecOn with
 | _ k ih =>
 intro A0 c0 l0 a1 r w hr0 hc0 h
 cases k with
 | zero => exact absurd h (by simp [salchowref10_room.f])
 | succ k =>
 simp only [salchowref10_room.f] at h; have HR0 := Aside0.mk hr0; have HC0 := Aside0.mk hc0; clear hr0 hc0; have H : (salchowref10_room.l0 k l0 a1 0) = some r := h; clear h; have H' := Aside0.mk H; clear H
 go_enter Tryz.func21, Tryz.ntmps21
 go_wp2
 go_loopg [1, 5] k (fun kq v1 v5 w' => ∃ (x1_1 : Int) (x5_1 : Int), v1 = .int .i64 x1_1 ∧ v5 = .int .i64 x5_1 ∧ Aside0 (salchowref10_room.l0 kq l0 x1_1 x5_1 = some r) ∧ Aside0 (kq ≤ k) ∧ Drawn0 w w')
 case atStart => exact ⟨(a1), (0), sr_, sr_, H', ⟨Nat.le_refl _⟩, by repeat (first | exact Drawn0.refl _ | apply Drawn0.step)⟩
 case round =>
  clear H'; obtain ⟨x1_1, x5_1, rfl, rfl, HA, HK1, ⟨m1, rfl⟩⟩ := hrel; obtain _ | k1 := gk
  · exact absurd HA.out (by simp [salchowref10_room.l0])
  have H := HA.out; clear HA; simp only [salchowref10_room.l0] at H; have HC3 := Aside0.mk H; clear H
  go_upto_region 2 with (fail)
  go_cut [14] (fun v14 wc => ∃ (kq : Nat) (x14_2 : Bool), v14 = .bool x14_2 ∧ Aside0 (salchowref10_room.j1 kq l0 x1_1 x5_1 x14_2 = some r) ∧ Aside0 (kq ≤ k1) ∧ Drawn0 w wc)
  case first =>
   have H := HC3.out; clear HC3; replace H := (sd_ H).symm; obtain ⟨c4b0, H⟩ | ⟨c4b0, H⟩ := H
   ·
    (first | rw [c4b0] | (simp only [i64_w, i32_w]; rw [c4b0]) | skip)
    have H' := Aside0.mk H; clear H
    go_wp2
    go_meet
    case rel => exact ⟨_, (false), sr_, H', ⟨ol_ HK1.out⟩, by repeat (first | exact Drawn0.refl _ | apply Drawn0.step)⟩
   (first | rw [c4b0] | (simp only [i64_w, i32_w]; rw [c4b0]) | skip)
   have H' := Aside0.mk H; clear H
   go_wp2
   go_meet
   case rel => exact ⟨_, (decide (x1_1 ≥ 0)), sr_, H', ⟨ol_ HK1.out⟩, by repeat (first | exact Drawn0.refl _ | apply Drawn0.step)⟩
  case rest =>
   clear HC3; obtain ⟨kq, x14_2, rfl, HA, HJ2, ⟨mc2, rfl⟩⟩ := hcut
   cases kq with
   | zero => exact absurd HA.out (by simp [salchowref10_room.j1])
   | succ kj2 =>
    have H := HA.out; clear HA; simp only [salchowref10_room.j1] at H; replace H := (sb_ H).symm; obtain ⟨rfl, H⟩ | ⟨rfl, H⟩ := H
    ·
     obtain rfl := Option.some.inj H
     go_wp2
     go_ret
     exact ⟨by first | rfl | (simp; done) | (simp [*]; done) | (simp <;> rfl), by repeat (first | exact Drawn0.refl _ | apply Drawn0.step)⟩
    have HC6 := Aside0.mk H; clear H
    go_upto_region 4 with (fail)
    go_cut [34] (fun v34 wc => ∃ (kq : Nat) (x34_5 : Bool), v34 = .bool x34_5 ∧ Aside0 (salchowref10_room.j2 kq l0 x1_1 x5_1 x34_5 = some r) ∧ Aside0 (kq ≤ kj2) ∧ Drawn0 w wc)
    case first =>
     have H := HC6.out; clear HC6; replace H := gd_ H; obtain ⟨c7b0, H⟩ := H
     (first | rw [c7b0] | (simp only [i64_w, i32_w]; rw [c7b0]) | skip)
     replace H := gd_ H; obtain ⟨c8b0, H⟩ := H; replace H := sd_ H; obtain ⟨c9b0, H⟩ | ⟨c9b0, H⟩ := H
     ·
      have H' := Aside0.mk H; clear H; have p564 : 0 ≤ (x5_1 : Int) := dt_; have q564 : x5_1 < (l0.length : Int) := dt_; obtain ⟨ad564, A564_1, c564_1, A564_3, c564_3, e564, hx564_0, hx564_1, hx564_2, hx564_3, hx564_4, hl564_1, hi564_1, hl564_3, hi564_3⟩ := at_T41 HR0.out x5_1 p564 q564; cases e564; have HR564_1 := Aside0.mk hi564_1; have HC564_1 := Aside0.mk hl564_1; clear hi564_1 hl564_1; have HR564_3 := Aside0.mk hi564_3; have HC564_3 := Aside0.mk hl564_3; clear hi564_3 hl564_3; replace p564 := eq_true p564; replace q564 := eq_true q564
      go_wp2
      go_meet
      case rel => exact ⟨_, (true), sr_, H', ⟨by have := HK1.out; have := HJ2.out; first | omega | exact Nat.le_refl _⟩, by repeat (first | exact Drawn0.refl _ | apply Drawn0.step)⟩
     have H' := Aside0.mk H; clear H; have p564 : 0 ≤ (x5_1 : Int) := dt_; have q564 : x5_1 < (l0.length : Int) := dt_; obtain ⟨ad564, A564_1, c564_1, A564_3, c564_3, e564, hx564_0, hx564_1, hx564_2, hx564_3, hx564_4, hl564_1, hi564_1, hl564_3, hi564_3⟩ := at_T41 HR0.out x5_1 p564 q564; cases e564; have HR564_1 := Aside0.mk hi564_1; have HC564_1 := Aside0.mk hl564_1; clear hi564_1 hl564_1; have HR564_3 := Aside0.mk hi564_3; have HC564_3 := Aside0.mk hl564_3; clear hi564_3 hl564_3; replace p564 := eq_true p564; replace q564 := eq_true q564; have p565 : 0 ≤ (x5_1 : Int) := dt_; have q565 : x5_1 < (l0.length : Int) := dt_; obtain ⟨ad565, A565_1, c565_1, A565_3, c565_3, e565, hx565_0, hx565_1, hx565_2, hx565_3, hx565_4, hl565_1, hi565_1, hl565_3, hi565_3⟩ := at_T41 HR0.out x5_1 p565 q565; obtain rfl : ad564 = ad565 := (by injection e565); have HR565_1 := Aside0.mk hi565_1; have HC565_1 := Aside0.mk hl565_1; clear hi565_1 hl565_1; have HR565_3 := Aside0.mk hi565_3; have HC565_3 := Aside0.mk hl565_3; clear hi565_3 hl565_3; replace p565 := eq_true p565; replace q565 := eq_true q565; have ea_ := Option.some.inj (hx564_1.symm.trans hx565_1)
     injection ea_ with ea_ en_ ec_
     subst ea_; subst ec_; clear en_; have ea_ := Option.some.inj (hx564_3.symm.trans hx565_3)
     injection ea_ with ea_ en_ ec_
     subst ea_; subst ec_; clear en_
     go_wp2
     go_meet
     case rel => exact ⟨_, (decide ((((rd_T41 l0 x5_1).f0).size : Int) > 200)), sr_, H', ⟨by have := HK1.out; have := HJ2.out; first | omega | exact Nat.le_refl _⟩, by repeat (first | exact Drawn0.refl _ | apply Drawn0.step)⟩
    case rest =>
     clear HC6; (try clear c5); obtain ⟨kq, x34_5, rfl, HA, HJ5, ⟨mc5, rfl⟩⟩ := hcut
     cases kq with
     | zero => exact absurd HA.out (by simp [salchowref10_room.j2])
     | succ kj5 =>
      have H := HA.out; clear HA; simp only [salchowref10_room.j2] at H; replace H := sb_ H; obtain ⟨rfl, H⟩ | ⟨rfl, H⟩ := H
      ·
       obtain rfl := Option.some.inj H
       go_wp2
       go_ret
       exact ⟨by first | rfl | (simp; done) | (simp [*]; done) | (simp <;> rfl), by repeat (first | exact Drawn0.refl _ | apply Drawn0.step)⟩
      replace H := gd_ H; obtain ⟨c11b0, H⟩ := H; replace H := gd_ H; obtain ⟨c12b0, H⟩ := H; have H' := Aside0.mk H; clear H; have p566 : 0 ≤ (x5_1 : Int) := dt_; have q566 : x5_1 < (l0.length : Int) := dt_; obtain ⟨ad566, A566_1, c566_1, A566_3, c566_3, e566, hx566_0, hx566_1, hx566_2, hx566_3, hx566_4, hl566_1, hi566_1, hl566_3, hi566_3⟩ := at_T41 HR0.out x5_1 p566 q566; cases e566; have HR566_1 := Aside0.mk hi566_1; have HC566_1 := Aside0.mk hl566_1; clear hi566_1 hl566_1; have HR566_3 := Aside0.mk hi566_3; have HC566_3 := Aside0.mk hl566_3; clear hi566_3 hl566_3; replace p566 := eq_true p566; replace q566 := eq_true q566
      go_wp2
      go_loopg [6] kj5 (fun kq v6 w' => ∃ (x6_4 : Int), v6 = .int .i64 x6_4 ∧ Aside0 (salchowref10_room.l1 kq l0 (wrap64 (x1_1 - (wrap64 (1 + (((rd_T41 l0 x5_1).f1).length : Int))))) x5_1 x6_4 = some r) ∧ Aside0 (kq ≤ kj5) ∧ Drawn0 w w')
      case atStart => exact ⟨(0), sr_, H', ⟨Nat.le_refl _⟩, by repeat (first | exact Drawn0.refl _ | apply Drawn0.step)⟩
      case round =>
       clear H'; (try clear c5); (try clear c10); (try clear c11); (try clear c11b0); (try clear c12); (try clear c12b0); (try clear hx566_0); (try clear hx566_1); (try clear hx566_2); (try clear hx566_3); (try clear hx566_4); (try clear p566); (try clear q566); obtain ⟨x6_4, rfl, HA, HK4, ⟨m4, rfl⟩⟩ := hrel; obtain _ | k4 := gk
       · exact absurd HA.out (by simp [salchowref10_room.l1])
       have H := HA.out; clear HA; simp only [salchowref10_room.l1] at H; replace H := gd_ H; obtain ⟨c13b0, H⟩ := H; replace H := gd_ H; obtain ⟨c14b0, H⟩ := H; replace H := (sd_ H).symm; obtain ⟨c15b0, H⟩ | ⟨c15b0, H⟩ := H
       ·
        replace H := bn_ H; obtain ⟨t571, A18, H⟩ := H; (try dsimp only at H); have H' := Aside0.mk H; clear H; have p567 : 0 ≤ (x5_1 : Int) := dt_; have q567 : x5_1 < (l0.length : Int) := dt_; obtain ⟨ad567, A567_1, c567_1, A567_3, c567_3, e567, hx567_0, hx567_1, hx567_2, hx567_3, hx567_4, hl567_1, hi567_1, hl567_3, hi567_3⟩ := at_T41 HR0.out x5_1 p567 q567; obtain rfl : ad566 = ad567 := (by injection e567); have HR567_1 := Aside0.mk hi567_1; have HC567_1 := Aside0.mk hl567_1; clear hi567_1 hl567_1; have HR567_3 := Aside0.mk hi567_3; have HC567_3 := Aside0.mk hl567_3; clear hi567_3 hl567_3; replace p567 := eq_true p567; replace q567 := eq_true q567; have p570 : 0 ≤ (x5_1 : Int) := dt_; have q570 : x5_1 < (l0.length : Int) := dt_; obtain ⟨ad570, A570_1, c570_1, A570_3, c570_3, e570, hx570_0, hx570_1, hx570_2, hx570_3, hx570_4, hl570_1, hi570_1, hl570_3, hi570_3⟩ := at_T41 HR0.out x5_1 p570 q570; obtain rfl : ad566 = ad570 := (by injection e570); have HR570_1 := Aside0.mk hi570_1; have HC570_1 := Aside0.mk hl570_1; clear hi570_1 hl570_1; have HR570_3 := Aside0.mk hi570_3; have HC570_3 := Aside0.mk hl570_3; clear hi570_3 hl570_3; replace p570 := eq_true p570; replace q570 := eq_true q570; have ea_ := Option.some.inj (hx567_1.symm.trans hx570_1)
        injection ea_ with ea_ en_ ec_
        subst ea_; subst ec_; clear en_; have ea_ := Option.some.inj (hx567_3.symm.trans hx570_3)
        injection ea_ with ea_ en_ ec_
        subst ea_; subst ec_; clear en_
        go_wp2_with (first | ((with_reducible refine gate_callee (f := 21) rfl ?_); refine goesL_ (some 71) rfl rfl Tryz.func21 (by kernel_rfl) rfl #[.slice A567_3 ((rd_T41 l0 x5_1).f3).length c567_3, .int .i64 (wrap64 (x1_1 - (wrap64 (1 + (((rd_T41 l0 x5_1).f1).length : Int)))))] rfl ga_ ?_; (with_reducible refine (ih k4 (by have := HK1.out; have := HJ2.out; have := HJ5.out; have := HK4.out; omega) _ _ ((rd_T41 l0 x5_1).f3) (wrap64 (x1_1 - (wrap64 (1 + (((rd_T41 l0 x5_1).f1).length : Int))))) t571 _ ?side1 ?side2 A18.out).mono ?_); (case side1 => repeat (first | exact HR570_3.out | (with_reducible refine Kd.C_alloc ?_ _) | (with_reducible refine Kd.C_drewN ?_ _) | (with_reducible refine Kd.C_drew ?_))); (case side2 => exact HC570_3.out); rintro e w' ⟨rfl, ⟨nd, rfl⟩⟩; refine ⟨_, rfl, ?_⟩))
        go_roundg k4
        case measure => have := HK1.out; have := HJ2.out; have := HJ5.out; have := HK4.out; omega
        case rel => exact ⟨(t571), (wrap64 (x5_1 + 1)), sr_, sr_, H', ⟨by have := HK1.out; have := HJ2.out; have := HJ5.out; have := HK4.out; omega⟩, by repeat (first | exact Drawn0.refl _ | apply Drawn0.step)⟩
       replace H := gd_ H; obtain ⟨c16b0, H⟩ := H; replace H := sp_ H; obtain ⟨c17, H⟩ | ⟨c17, H⟩ := H
       ·
        have c17b0 := decide_eq_true c17; have c17b1 : decide (200 < ((rd_T46 ((rd_T41 l0 x5_1).f1) x6_4).f1).size) = true := decide_eq_true (by omega); clear c17; obtain rfl := Option.some.inj H; have p567 : 0 ≤ (x5_1 : Int) := dt_; have q567 : x5_1 < (l0.length : Int) := dt_; obtain ⟨ad567, A567_1, c567_1, A567_3, c567_3, e567, hx567_0, hx567_1, hx567_2, hx567_3, hx567_4, hl567_1, hi567_1, hl567_3, hi567_3⟩ := at_T41 HR0.out x5_1 p567 q567; obtain rfl : ad566 = ad567 := (by injection e567); have HR567_1 := Aside0.mk hi567_1; have HC567_1 := Aside0.mk hl567_1; clear hi567_1 hl567_1; have HR567_3 := Aside0.mk hi567_3; have HC567_3 := Aside0.mk hl567_3; clear hi567_3 hl567_3; replace p567 := eq_true p567; replace q567 := eq_true q567; have p568 : 0 ≤ (x5_1 : Int) := dt_; have q568 : x5_1 < (l0.length : Int) := dt_; obtain ⟨ad568, A568_1, c568_1, A568_3, c568_3, e568, hx568_0, hx568_1, hx568_2, hx568_3, hx568_4, hl568_1, hi568_1, hl568_3, hi568_3⟩ := at_T41 HR0.out x5_1 p568 q568; obtain rfl : ad566 = ad568 := (by injection e568); have HR568_1 := Aside0.mk hi568_1; have HC568_1 := Aside0.mk hl568_1; clear hi568_1 hl568_1; have HR568_3 := Aside0.mk hi568_3; have HC568_3 := Aside0.mk hl568_3; clear hi568_3 hl568_3; replace p568 := eq_true p568; replace q568 := eq_true q568; have ea_ := Option.some.inj (hx567_1.symm.trans hx568_1)
        injection ea_ with ea_ en_ ec_
        subst ea_; subst ec_; clear en_; have ea_ := Option.some.inj (hx567_3.symm.trans hx568_3)
        injection ea_ with ea_ en_ ec_
        subst ea_; subst ec_; clear en_; have p569 : 0 ≤ (x6_4 : Int) := dt_; have q569 : x6_4 < (((rd_T41 l0 x5_1).f1).length : Int) := dt_; obtain ⟨ad569, e569, hx569_0, hx569_1, hx569_2, hx569_3⟩ := at_T46 HR568_1.out x6_4 p569 q569; cases e569; replace p569 := eq_true p569; replace q569 := eq_true q569
        go_wp2
        go_ret
        exact ⟨by first | rfl | (simp; done) | (simp [*]; done) | (simp <;> rfl), by repeat (first | exact Drawn0.refl _ | apply Drawn0.step)⟩
       have c17b0 := decide_eq_false c17; have c17b1 : decide (200 < ((rd_T46 ((rd_T41 l0 x5_1).f1) x6_4).f1).size) = false := decide_eq_false (by omega); clear c17; have H' := Aside0.mk H; clear H; have p567 : 0 ≤ (x5_1 : Int) := dt_; have q567 : x5_1 < (l0.length : Int) := dt_; obtain ⟨ad567, A567_1, c567_1, A567_3, c567_3, e567, hx567_0, hx567_1, hx567_2, hx567_3, hx567_4, hl567_1, hi567_1, hl567_3, hi567_3⟩ := at_T41 HR0.out x5_1 p567 q567; obtain rfl : ad566 = ad567 := (by injection e567); have HR567_1 := Aside0.mk hi567_1; have HC567_1 := Aside0.mk hl567_1; clear hi567_1 hl567_1; have HR567_3 := Aside0.mk hi567_3; have HC567_3 := Aside0.mk hl567_3; clear hi567_3 hl567_3; replace p567 := eq_true p567; replace q567 := eq_true q567; have p568 : 0 ≤ (x5_1 : Int) := dt_; have q568 : x5_1 < (l0.length : Int) := dt_; obtain ⟨ad568, A568_1, c568_1, A568_3, c568_3, e568, hx568_0, hx568_1, hx568_2, hx568_3, hx568_4, hl568_1, hi568_1, hl568_3, hi568_3⟩ := at_T41 HR0.out x5_1 p568 q568; obtain rfl : ad566 = ad568 := (by injection e568); have HR568_1 := Aside0.mk hi568_1; have HC568_1 := Aside0.mk hl568_1; clear hi568_1 hl568_1; have HR568_3 := Aside0.mk hi568_3; have HC568_3 := Aside0.mk hl568_3; clear hi568_3 hl568_3; replace p568 := eq_true p568; replace q568 := eq_true q568; have ea_ := Option.some.inj (hx567_1.symm.trans hx568_1)
       injection ea_ with ea_ en_ ec_
       subst ea_; subst ec_; clear en_; have ea_ := Option.some.inj (hx567_3.symm.trans hx568_3)
       injection ea_ with ea_ en_ ec_
       subst ea_; subst ec_; clear en_; have p569 : 0 ≤ (x6_4 : Int) := dt_; have q569 : x6_4 < (((rd_T41 l0 x5_1).f1).length : Int) := dt_; obtain ⟨ad569, e569, hx569_0, hx569_1, hx569_2, hx569_3⟩ := at_T46 HR568_1.out x6_4 p569 q569; cases e569; replace p569 := eq_true p569; replace q569 := eq_true q569
       go_wp2
       go_roundg k4
       case measure => have := HK1.out; have := HJ2.out; have := HJ5.out; have := HK4.out; omega
       case rel => exact ⟨(wrap64 (x6_4 + 1)), sr_, H', ⟨by have := HK1.out; have := HJ2.out; have := HJ5.out; have := HK4.out; omega⟩, by repeat (first | exact Drawn0.refl _ | apply Drawn0.step)⟩
def salchowref10_Small.f (k : Nat) (l0 : List (S41)) (a1 : Int) : Option (Bool) := (salchowref10_room.f k l0 a1).bind fun t572 => (some (decide (t572 ≥ 0)))
theorem salchowref10_Small.mono : ∀ a0 a1 k, LeO (salchowref10_Small.f k a0 a1) (salchowref10_Small.f (k + 1) a0 a1) := by
 intro a0 a1 k
 unfold salchowref10_Small.f
 repeat' first
   | (with_reducible exact LeO.refl _)
   | exact salchowref10_room.mono _ _ _
   | exact LeO.none _
   | refine LeO.ite ?_ ?_
   | refine LeO.bind ?_ (fun _ => ?_)
theorem salchowref10_Small.calls (k : Nat) (A0 : Option Addr) (c0 : Nat) (l0 : List (S41)) (a1 : Int) (r : Bool) (w : World) (hr0 : Kd.C k41 w A0 l0.length l0) (hc0 : l0.length ≤ c0) (h : salchowref10_Small.f k l0 a1 = some r) :
  Calls Tryz.prog 7 #[.slice A0 l0.length c0, .int .i64 a1] w fun e w' => e = .returned (.bool r) ∧ Drawn0 w w' := by
 have HR0 := Aside0.mk hr0; have HC0 := Aside0.mk hc0; clear hr0 hc0; have H : ((salchowref10_room.f k l0 a1).bind fun t572 => (some (decide (t572 ≥ 0)))) = some r := h; clear h; replace H := bn_ H; obtain ⟨t572, A3, H⟩ := H; (try dsimp only at H); obtain rfl := Option.some.inj H
 go_enter Tryz.func7, Tryz.ntmps7
 go_wp2_with (first | ((with_reducible refine gate_callee (f := 21) rfl ?_); refine gk_ (some 7) Tryz.func21 (salchowref10_room.calls k _ _ l0 a1 t572 _ ?side1 ?side2 A3.out) ?_; (case side1 => repeat (first | exact HR0.out | (with_reducible refine Kd.C_alloc ?_ _) | (with_reducible refine Kd.C_drewN ?_ _) | (with_reducible refine Kd.C_drew ?_))); (case side2 => exact HC0.out); rintro e w' ⟨rfl, ⟨nd, rfl⟩⟩; refine ⟨_, rfl, ?_⟩))
 go_ret
 exact ⟨by first | rfl | (simp; done) | (simp [*]; done) | (simp <;> rfl), by repeat (first | exact Drawn0.refl _ | apply Drawn0.step)⟩
end Go.Proofs.YtkifdadhojbohaaGreatDoor.Pr
namespace Go.Proofs.YtkifdadhojbohaaGreatDoor.Pu
open Go.RowKit Go.Proofs.YtkifdadhojbohaaGreatDoor Go.Proofs.YtkifdadhojbohaaGreatDoor.Pr Go.Proofs.YtkifdadhojbohaaGreatDoorW.PrintWords Go.Proofs.YtkifdadhojbohaaGreatDoorW.PrintLast Go.Proofs.YtkifdadhojbohaaGreatDoorW.PrintMore
theorem room_f : ∀ l, ∀ m : Int, -1 ≤ m → m ≤ 1000000 → ∃ r, Ev (fun k => salchowref10_room.f k l m) r ∧ r ≤ m ∧ -1 ≤ r ∧ (0 ≤ r → (szL l : Int) + r = m ∧ AllC (txt 200) l) := by
  have loop : ∀ l, ∀ (A : List S41) (i : Nat) (m : Int), A.drop i = l → i ≤ A.length → -1 ≤ m → m ≤ 1000000 → (i : Int) + m ≤ 2000000 → ∃ r, Ev (fun k => salchowref10_room.l0 k A m (i : Int)) r ∧ r ≤ m ∧ -1 ≤ r ∧ (0 ≤ r → (szL l : Int) + r = m ∧ AllC (txt 200) l) := by
    refine indL ?_ ?_
    · intro A i m hA hi h1 h2 _
      have : A.length ≤ i := by
        have := congrArg List.length hA
        rw [List.length_drop] at this
        simp at this; omega
      refine ⟨m, ?_, by omega, h1, fun _ => ⟨by simp [szL], AllC.nil⟩⟩
      refine Ev.succ ?_
      simp only [salchowref10_room.l0]
      refine Ev.ifn (by omega) (Ev.succ ?_)
      simp only [salchowref10_room.j1]
      exact Ev.ifn (by simp) (Ev.now _)
    · intro c l ih1 ih2 A i m hA hi h1 h2 h3
      obtain ⟨a1, a2, a3⟩ := rd41_at hA
      have stop : ∀ b, b = false → Ev (fun k => salchowref10_room.j1 k A m (i : Int) b) m := by
        intro b hb
        subst hb
        refine Ev.succ ?_
        simp only [salchowref10_room.j1]
        exact Ev.ifn (by simp) (Ev.now _)
      have start : ∀ r, Ev (fun k => salchowref10_room.j1 k A m (i : Int) (decide (m ≥ 0))) r → Ev (fun k => salchowref10_room.l0 k A m (i : Int)) r := by
        intro r h
        refine Ev.succ ?_
        simp only [salchowref10_room.l0]
        exact Ev.ifp (by omega) h
      by_cases hm : m ≥ 0
      · have drop : Ev (fun k => salchowref10_room.j2 k A m (i : Int) true) (-1) := by
          refine Ev.succ ?_
          simp only [salchowref10_room.j2]
          exact Ev.ifp trivial (Ev.now _)
        have step : ∀ r, (if (c.f1.length : Int) > m - 1 then Ev (fun k => salchowref10_room.j2 k A m (i : Int) true) r else Ev (fun k => salchowref10_room.j2 k A m (i : Int) (decide ((c.f0.size : Int) > 200))) r) → Ev (fun k => salchowref10_room.l0 k A m (i : Int)) r := by
          intro r h
          refine start r ?_
          rw [decide_eq_true hm]
          refine Ev.succ ?_
          simp only [salchowref10_room.j1, a2]
          rw [wrap64_of (i := m - 1) (by omega) (by omega)]
          refine Ev.ifp trivial (Ev.ifp natO (Ev.ifp (by omega) ?_))
          by_cases hx : (c.f1.length : Int) > m - 1
          · rw [if_pos hx] at h; exact Ev.ifp hx h
          · rw [if_neg hx] at h; exact Ev.ifn hx h
        by_cases hx : (c.f1.length : Int) > m - 1
        · exact ⟨-1, step _ (by rw [if_pos hx]; exact drop), by omega, by omega, by omega⟩
        · by_cases hw : (c.f0.size : Int) > 200
          · exact ⟨-1, step _ (by rw [if_neg hx, decide_eq_true hw]; exact drop), by omega, by omega, by omega⟩
          · -- the atoms
            have inner : ∀ (d j : Nat) (ats : List S46), c.f1.drop j = ats → j ≤ c.f1.length → c.f1.length - j = d →
                ∃ r, Ev (fun k => salchowref10_room.l1 k A (m - 1 - c.f1.length) (i : Int) (j : Int)) r ∧ r ≤ m ∧ -1 ≤ r ∧ (0 ≤ r → (szL c.f3 : Int) + szL l + r = m - 1 - c.f1.length ∧ (∀ a ∈ ats, a.f1.size ≤ 200) ∧ AllC (txt 200) c.f3 ∧ AllC (txt 200) l) := by
              intro d
              induction d with
              | zero =>
                intro j ats hj hjl hd
                have e : ats = [] := by rw [← hj]; exact List.drop_eq_nil_of_le (by omega)
                subst e
                have hkids : ∃ r, Ev (fun k => salchowref10_room.f k c.f3 (m - 1 - c.f1.length)) r ∧ r ≤ m - 1 - c.f1.length ∧ -1 ≤ r ∧ (0 ≤ r → (szL c.f3 : Int) + r = m - 1 - c.f1.length ∧ AllC (txt 200) c.f3) := by
                  obtain ⟨r, g1, g2⟩ := ih1 c.f3 0 (m - 1 - c.f1.length) rfl (by omega) (by omega) (by omega) (by omega)
                  refine ⟨r, ?_, g2⟩
                  refine Ev.succ ?_
                  simp only [salchowref10_room.f]
                  exact g1
                obtain ⟨r1, g1, g2, g3, g4⟩ := hkids
                obtain ⟨r2, k1, k2, k3_, k4⟩ := ih2 A (i + 1) r1 a3 (by omega) g3 (by omega) (by omega)
                refine ⟨r2, ?_, by omega, k3_, fun hr => ?_⟩
                · refine Ev.succ ?_
                  simp only [salchowref10_room.l1, a2]
                  rw [wrap64_of (i := (i : Int) + 1) (by omega) (by omega)]
                  exact Ev.ifp natO (Ev.ifp (by omega) (Ev.ifn (by omega) (Ev.bind g1 k1)))
                · obtain ⟨u1, u2⟩ := k4 hr
                  obtain ⟨v1, v2⟩ := g4 (by omega)
                  exact ⟨by omega, by simp, v2, u2⟩
              | succ d ih =>
                intro j ats hj hjl hd
                cases ats with
                | nil =>
                  have := congrArg List.length hj
                  rw [List.length_drop] at this
                  simp at this; omega
                | cons a ats =>
                  obtain ⟨b1, b2, b3⟩ := rd_at hj
                  by_cases ha : (a.f1.size : Int) > 200
                  · refine ⟨-1, ?_, by omega, by omega, by omega⟩
                    refine Ev.succ ?_
                    simp only [salchowref10_room.l1, a2, b2]
                    exact Ev.ifp natO (Ev.ifp (by omega) (Ev.ifp (by omega) (Ev.ifp natO (Ev.ifp ha (Ev.now _)))))
                  · obtain ⟨r, g1, g2, g3, g4⟩ := ih (j + 1) ats b3 (by omega) (by omega)
                    refine ⟨r, ?_, g2, g3, fun hr => ?_⟩
                    · refine Ev.succ ?_
                      simp only [salchowref10_room.l1, a2, b2]
                      rw [wrap64_of (i := (j : Int) + 1) (by omega) (by omega)]
                      exact Ev.ifp natO (Ev.ifp (by omega) (Ev.ifp (by omega) (Ev.ifp natO (Ev.ifn ha g1))))
                    · obtain ⟨u1, u2, u3, u4⟩ := g4 hr
                      refine ⟨u1, ?_, u3, u4⟩
                      intro x hx
                      rcases List.mem_cons.1 hx with rfl | hx
                      · omega
                      · exact u2 x hx
            obtain ⟨r, g1, g2, g3, g4⟩ := inner c.f1.length 0 c.f1 rfl (by omega) (by omega)
            refine ⟨r, step _ ?_, g2, g3, fun hr => ?_⟩
            · rw [if_neg hx, decide_eq_false hw]
              refine Ev.succ ?_
              simp only [salchowref10_room.j2, a2]
              rw [wrap64_of (i := 1 + (c.f1.length : Int)) (by omega) (by omega), wrap64_of (by omega) (by omega)]
              rw [show m - (1 + (c.f1.length : Int)) = m - 1 - c.f1.length by omega]
              exact Ev.ifn (by simp) (Ev.ifp natO (Ev.ifp (by omega) g1))
            · obtain ⟨u1, u2, u3, u4⟩ := g4 hr
              refine ⟨?_, AllC.cons _ _ ⟨by omega, u2⟩ u3 u4⟩
              rw [szL]; omega
      · exact ⟨m, start _ (stop _ (decide_eq_false hm)), by omega, h1, by omega⟩
  intro l m h1 h2
  obtain ⟨r, g1, g2⟩ := loop l l 0 m rfl (by omega) h1 h2 (by omega)
  refine ⟨r, ?_, g2⟩
  refine Ev.succ ?_
  simp only [salchowref10_room.f]
  exact g1
theorem Small_f (l : List S41) (m : Nat) (hm : m ≤ 1000) : ∃ b, Ev (fun k => salchowref10_Small.f k l (m : Int)) b ∧ (b = true → szL l ≤ m ∧ AllC (txt 200) l) := by
  obtain ⟨r, g1, g2, g3, g4⟩ := room_f l m (by omega) (by omega)
  refine ⟨decide (r ≥ 0), ?_, fun h => ?_⟩
  · simp only [salchowref10_Small.f]
    exact Ev.bind g1 (Ev.now _)
  · have h0 : r ≥ 0 := of_decide_eq_true h
    obtain ⟨u1, u2⟩ := g4 h0
    exact ⟨by omega, u2⟩
theorem AllC.mono {P Q : S41 → Prop} (h : ∀ c, P c → Q c) {l : List S41} (hl : AllC P l) : AllC Q l := by
  induction hl with
  | nil => exact AllC.nil
  | cons c l hc _ _ ih1 ih2 => exact AllC.cons c l (h c hc) ih1 ih2
theorem txt_mono {n m : Nat} (h : n ≤ m) {l : List S41} (hl : AllC (txt n) l) : AllC (txt m) l :=
  hl.mono fun _ hc => ⟨Nat.le_trans hc.1 h, fun a ha => Nat.le_trans (hc.2 a ha) h⟩
theorem toks_valid (n : Nat) (hn : 1 ≤ n) : ∀ l, formL l = true → AllC (txt n) l → ∀ t ∈ toksL l, validB t.f0 (lst t.f1) t.f2 = true ∧ t.f0 ≠ 5 ∧ t.f1.size ≤ n := by
  refine indL ?_ ?_
  · intro _ _ t ht
    rw [toksL] at ht; cases ht
  · intro c l h1 h2 hf hP t ht
    rw [formL] at hf
    simp only [Bool.and_eq_true] at hf
    obtain ⟨⟨⟨⟨f1, f2⟩, f3⟩, f4⟩, f5⟩ := hf
    cases hP with
    | cons _ _ hc hk hr =>
    have hsg : ∀ b : UInt8, kindOf b.toNat = 5 → validB (sgT b).f0 (lst (sgT b).f1) (sgT b).f2 = true ∧ (sgT b).f0 ≠ 5 ∧ (sgT b).f1.size ≤ n := by
      intro b hb
      refine ⟨?_, show (4 : Int) ≠ 5 by decide, hn⟩
      show validB 4 [b] 0 = true
      unfold validB
      simp [hb]
    rw [toksL] at ht
    rcases List.mem_append.1 ht with ht | ht
    · rcases List.mem_append.1 ht with ht | ht
      · rcases List.mem_cons.1 ht with rfl | ht
        · exact ⟨f1, by show (1 : Int) ≠ 5; decide, hc.1⟩
        · have := List.all_eq_true.1 f3 t ht
          unfold okA at this
          rw [Bool.and_eq_true] at this
          refine ⟨this.2, ?_, hc.2 t ht⟩
          intro h5
          have h := this.1
          simp [isA, h5] at h
      · by_cases hb : c.f2 = true
        · rw [if_pos hb] at ht
          rcases List.mem_append.1 ht with ht | ht
          · rcases List.mem_cons.1 ht with rfl | ht
            · exact hsg 123 (by decide)
            · exact h1 f4 hk t ht
          · rw [List.mem_singleton] at ht
            subst ht
            exact hsg 125 (by decide)
        · rw [if_neg hb, List.mem_singleton] at ht
          subst ht
          exact hsg 59 (by decide)
    · exact h2 f5 hr t ht
end Go.Proofs.YtkifdadhojbohaaGreatDoor.Pu
