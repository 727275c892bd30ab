/- Joined out of the texts of this proof that bear the names PvK GivB PvA PrF31 PrF30 PwE PrZ51 PrZ36 PzG PrZ18 PzQ: what each shows stands over it there. -/
import Derived.Test.YtkifdadhojbohaaGreatDoorEc1
import Derived.Test.YtkifdadhojbohaaGreatDoorEk1
import Derived.Test.YtkifdadhojbohaaGreatDoorEb1
import Derived.Test.YtkifdadhojbohaaGreatDoorEs1
import Derived.Lib.AppendIntMem
import Derived.Stop.LaidErr
import Derived.WalkSmall
set_option linter.unusedVariables false
set_option linter.unusedSimpArgs false
set_option maxHeartbeats 8000000
set_option maxRecDepth 100000
namespace Go.Proofs.YtkifdadhojbohaaGreatDoor.Pu
open Go.RowKit Go.Proofs.YtkifdadhojbohaaGreatDoor Go.Proofs.YtkifdadhojbohaaGreatDoor.Pr Go.Proofs.YtkifdadhojbohaaGreatDoorW.PrintWords Go.Proofs.YtkifdadhojbohaaGreatDoorW.PrintLast
theorem kind1 (n : Nat) : kindOf n = 1 ↔ n = 32 ∨ n = 9 ∨ n = 10 ∨ n = 13 := by
  unfold kindOf
  constructor
  · intro h; (repeat' split at h) <;> omega
  · intro h; rw [if_pos h]
theorem kind2 (n : Nat) : kindOf n = 2 ↔ 97 ≤ n ∧ n ≤ 122 ∨ 65 ≤ n ∧ n ≤ 90 ∨ n = 95 := by
  unfold kindOf
  constructor
  · intro h; (repeat' split at h) <;> omega
  · intro h; rw [if_neg (by omega), if_pos h]
theorem kind3 (n : Nat) : kindOf n = 3 ↔ 48 ≤ n ∧ n ≤ 57 := by
  unfold kindOf
  constructor
  · intro h; (repeat' split at h) <;> omega
  · intro h; rw [if_neg (by omega), if_neg (by omega), if_pos h]
theorem kind4 (n : Nat) : kindOf n = 4 ↔ n = 46 := by
  unfold kindOf
  constructor
  · intro h; (repeat' split at h) <;> omega
  · intro h; subst h; decide
theorem kind5 (n : Nat) : kindOf n = 5 ↔ n = 40 ∨ n = 41 ∨ n = 43 ∨ n = 45 ∨ n = 42 ∨ n = 47 ∨ n = 44 ∨ n = 61 ∨ n = 59 ∨ n = 123 ∨ n = 125 := by
  unfold kindOf
  constructor
  · intro h; (repeat' split at h) <;> omega
  · intro h; rw [if_neg (by omega), if_neg (by omega), if_neg (by omega), if_neg (by omega), if_pos h]
theorem let_num (t : List UInt8) (h : t.any isLet = true) : (numL t).2 = 2 := by
  have hd : (t.take (t.findIdx (· == 46)) ++ t.drop (t.findIdx (· == 46) + 1)).all fC = false := by
    rw [List.any_eq_true] at h
    obtain ⟨c, hc, hl⟩ := h
    have h2 : kindOf c.toNat = 2 := by
      simp only [isLet, Bool.and_eq_true, beq_iff_eq] at hl; exact hl.1
    have hdc : fC c = false := by simp [fC, h2]
    have hin : c ∈ t.take (t.findIdx (· == 46)) ++ t.drop (t.findIdx (· == 46) + 1) := by
      rw [List.mem_iff_getElem] at hc
      obtain ⟨j, hj, rfl⟩ := hc
      rw [List.mem_append]
      by_cases a : j < t.findIdx (· == 46)
      · left
        rw [List.mem_iff_getElem]
        exact ⟨j, by rw [List.length_take]; omega, by rw [List.getElem_take]⟩
      · by_cases b : j = t.findIdx (· == 46)
        · exfalso
          have hx := List.findIdx_getElem (xs := t) (p := (· == 46)) (w := by rw [← b]; exact hj)
          simp only [← b] at hx
          rw [beq_iff_eq] at hx
          rw [hx] at h2
          exact absurd h2 (by decide)
        · right
          rw [List.mem_iff_getElem]
          refine ⟨j - (t.findIdx (· == 46) + 1), by rw [List.length_drop]; omega, ?_⟩
          rw [List.getElem_drop]
          congr 1
          omega
    cases hx : (t.take (t.findIdx (· == 46)) ++ t.drop (t.findIdx (· == 46) + 1)).all fC with
    | false => rfl
    | true => have := (List.all_eq_true.1 hx) c hin; rw [hdc] at this; cases this
  unfold numL
  dsimp only
  split
  · rfl
  · first | rfl | rw [if_pos hd]
end Go.Proofs.YtkifdadhojbohaaGreatDoor.Pu
namespace Go.Proofs.YtkifdadhojbohaaGreatDoor
open Go.RowKit Go.Proofs.YtkifdadhojbohaaGreatDoorW.PrintWords
def cB.f (s cut : ByteArray) : Option ByteArray := if cut.data.toList = [48] ∧ s.size ≤ 9223372036854775807 then some ⟨(Lib.trimRightB s.data.toList 48).toArray⟩ else none
theorem cB.calls (a0 a1 : ByteArray) (r : ByteArray) (w : World) (h : cB.f a0 a1 = some r) :
    Calls Tryz.prog 63 #[.string a0, .string a1] w fun e w' => e = .returned (.string r) ∧ Below w.heap.size w w' := by
  unfold cB.f at h
  split at h
  · rename_i h1
    obtain ⟨h1, h2⟩ := h1
    obtain rfl : a1 = ⟨#[48]⟩ := by
      cases a1 with
      | mk d => cases d; simp at h1; subst h1; rfl
    obtain rfl := Option.some.inj h
    exact (Tryz.strings_TrimRight_one a0 48 (by decide) w h2).mono fun e w' hh => ⟨hh.1, hh.2 ▸ Below.refl _ _⟩
  · cases h
def Gl (w : World) : Prop := Lib.TabIs Tryz.prog w "internal/strconv.uint64pow10" .u64 Lib.pow10Tab ∧ 1 < w.heap.size
theorem Gl.below {w w' : World} (h : Gl w) (hb : Below w.heap.size w w') : Gl w' :=
  ⟨var?_below (g := 1) hb (by kernel_rfl) h.2 h.1, Nat.lt_of_lt_of_le h.2 hb.size⟩
theorem Gl.drawn {w w' : World} (h : Gl w) (hb : aK w w') : Gl w' := h.below hb.below
def bW.f (n base : Int) : Option ByteArray := if base = 10 ∧ 0 ≤ n ∧ n ≤ 9223372036854775807 then some ⟨(Lib.decDigits n.toNat).toArray⟩ else none
theorem bW.calls (a0 a1 : Int) (r : ByteArray) (w : World) (hG : Gl w) (h : bW.f a0 a1 = some r) :
    Calls Tryz.prog 62 #[.int .i64 a0, .int .i64 a1] w fun e w' => e = .returned (.string r) ∧ Below w.heap.size w w' := by
  unfold bW.f at h
  split at h
  · rename_i h1
    obtain ⟨rfl, h2, h3⟩ := h1
    obtain rfl := Option.some.inj h
    refine (Tryz.strconv_FormatInt_10 a0 (by omega) h3 w hG.1).mono fun e w' hh => ⟨?_, ?_⟩
    · rw [hh.1]; unfold Lib.itoa; rw [if_neg (by omega)]
    · obtain ⟨k, os, rfl⟩ := hh.2
      exact Lib.below_grow _ w (Nat.le_refl _) k os
  · cases h
end Go.Proofs.YtkifdadhojbohaaGreatDoor
namespace Go.Proofs.YtkifdadhojbohaaGreatDoor.Pu
open Go.RowKit Go.Proofs.YtkifdadhojbohaaGreatDoor Go.Proofs.YtkifdadhojbohaaGreatDoor.Pr Go.Proofs.YtkifdadhojbohaaGreatDoorW.PrintWords Go.Proofs.YtkifdadhojbohaaGreatDoorW.PrintLast
theorem dig_nat {d : Nat} (h : d < 10) : (UInt8.ofNat (48 + d)).toNat = 48 + d := by
  rw [UInt8.toNat_ofNat']; omega
theorem val_append (a b : List UInt8) : dQ (a ++ b) = b.foldl (fun n c => n * 10 + (c.toNat - 48)) (dQ a) := by
  simp [dQ, List.foldl_append]
theorem dec_spec (u : Nat) : (∀ c ∈ Lib.decDigits u, 48 ≤ c.toNat ∧ c.toNat ≤ 57) ∧ dQ (Lib.decDigits u) = u ∧ Lib.decDigits u ≠ [] ∧ (10 ≤ u → (Lib.decDigits u).head? ≠ some 48) ∧ (1 ≤ u → (Lib.decDigits u).head? ≠ some 48) := by
  induction u using Nat.strongRecOn with
  | _ u ih =>
    by_cases h : u < 10
    · rw [Lib.decDigits_one h]
      have hd := dig_nat h
      refine ⟨?_, ?_, by simp, by omega, ?_⟩
      · intro c hc
        rw [List.mem_singleton] at hc
        rw [hc, hd]; omega
      · simp only [dQ, List.foldl_cons, List.foldl_nil]
        rw [hd]; omega
      · intro h1 he
        simp only [List.head?_cons, Option.some.injEq] at he
        have := congrArg UInt8.toNat he
        rw [hd] at this
        have h2 : (48 : UInt8).toNat = 48 := rfl
        omega
    · obtain ⟨a, b, c, _, e⟩ := ih (u / 10) (by omega)
      have hd : (UInt8.ofNat (48 + u % 10)).toNat = 48 + u % 10 := dig_nat (by omega)
      have hh : (Lib.decDigits u).head? = (Lib.decDigits (u / 10)).head? := by
        rw [Lib.decDigits, dif_neg h]
        cases hx : Lib.decDigits (u / 10) with
        | nil => exact absurd hx c
        | cons y ys => rfl
      refine ⟨?_, ?_, ?_, ?_, ?_⟩
      · intro x hx
        rw [Lib.decDigits, dif_neg h] at hx
        rcases List.mem_append.1 hx with hx | hx
        · exact a x hx
        · rw [List.mem_singleton] at hx
          rw [hx, hd]; omega
      · rw [Lib.decDigits, dif_neg h, val_append, b]
        simp only [List.foldl_cons, List.foldl_nil]
        rw [hd]; omega
      · rw [Lib.decDigits, dif_neg h]; simp
      · intro _; rw [hh]; exact e (by omega)
      · intro _; rw [hh]; exact e (by omega)
def three (m : Nat) : List UInt8 := [UInt8.ofNat (48 + m / 100), UInt8.ofNat (48 + m / 10 % 10), UInt8.ofNat (48 + m % 10)]
theorem dec_thousand (m : Nat) (h : m < 1000) (q : Nat) (hq : 1 ≤ q) : Lib.decDigits (q * 1000 + m) = Lib.decDigits q ++ three m := by
  rw [Lib.decDigits, dif_neg (by omega), Lib.decDigits, dif_neg (by omega), Lib.decDigits, dif_neg (by omega)]
  rw [show (q * 1000 + m) / 10 / 10 / 10 = q by omega, show (q * 1000 + m) / 10 / 10 % 10 = m / 100 by omega, show (q * 1000 + m) / 10 % 10 = m / 10 % 10 by omega, show (q * 1000 + m) % 10 = m % 10 by omega]
  simp [three]
def cutZ (l : List UInt8) : List UInt8 := (l.reverse.dropWhile (· == 48)).reverse
def numS (n : Nat) : List UInt8 := Lib.decDigits (n / 1000) ++ (if cutZ (three (n % 1000)) = [] then [] else 46 :: cutZ (three (n % 1000)))
theorem cut_fin : ∀ m : Fin 1000, (cutZ (three m.val)).all fC = true ∧ (cutZ (three m.val)).length ≤ 3 ∧ dQ ((cutZ (three m.val) ++ [48, 48, 48]).take 3) = m.val ∧ ((cutZ (three m.val) ++ [48, 48, 48]).take 3).length = 3 ∧ (cutZ (three m.val) = [] → m.val = 0) := by decide +kernel
theorem dig_of {c : UInt8} (h : 48 ≤ c.toNat ∧ c.toNat ≤ 57) : fC c = true := by
  unfold fC
  rw [beq_iff_eq]
  exact (kind3 c.toNat).2 h
theorem val_three (a b : List UInt8) (hb : b.length = 3) : dQ (a ++ b) = dQ a * 1000 + dQ b := by
  match b, hb with
  | [x, y, z], _ =>
    rw [val_append]
    simp only [dQ, List.foldl_cons, List.foldl_nil]
    omega
theorem numL_numS (n : Nat) (hn : n ≤ 1000000000) : numL (numS n) = ((n : Int), 0) := by
  obtain ⟨a, b, c, _, e⟩ := dec_spec (n / 1000)
  obtain ⟨f1, f2, f3, f5, f4⟩ := cut_fin ⟨n % 1000, Nat.mod_lt _ (by decide)⟩
  dsimp only at f1 f2 f3 f4 f5
  have hno : ∀ x ∈ Lib.decDigits (n / 1000), ¬ (x == (46 : UInt8)) = true := by
    intro x hx he
    rw [beq_iff_eq] at he
    have := a x hx
    rw [he] at this
    exact absurd this.1 (by decide)
  have hlen : (Lib.decDigits (n / 1000)).length ≤ 10 := by
    rw [Lib.decDigits_length]
    rcases Nat.lt_or_ge (Lib.nDigits (n / 1000)) 11 with h | h
    · omega
    · exfalso
      have hp : ∀ u : Nat, u ≤ 1000000 → Lib.nDigits u ≤ 7 := by
        intro u hu
        by_cases h0 : u < 10
        · rw [Lib.nDigits_small h0]; omega
        · have := Lib.nDigits_unique
          rcases (by omega : (10 ≤ u ∧ u < 100) ∨ (100 ≤ u ∧ u < 1000) ∨ (1000 ≤ u ∧ u < 10000) ∨ (10000 ≤ u ∧ u < 100000) ∨ (100000 ≤ u ∧ u < 1000000) ∨ (1000000 ≤ u ∧ u < 10000000)) with h | h | h | h | h | h
          · rw [this 1 u (by omega) (by omega)]; omega
          · rw [this 2 u (by omega) (by omega)]; omega
          · rw [this 3 u (by omega) (by omega)]; omega
          · rw [this 4 u (by omega) (by omega)]; omega
          · rw [this 5 u (by omega) (by omega)]; omega
          · rw [this 6 u (by omega) (by omega)]; omega
      have := hp (n / 1000) (by omega)
      omega
  have hall : (Lib.decDigits (n / 1000)).all fC = true := List.all_eq_true.2 (fun x hx => dig_of (a x hx))
  have hhead : ¬ (1 < (Lib.decDigits (n / 1000)).length ∧ (Lib.decDigits (n / 1000)).head? = some 48) := by
    rintro ⟨h1, h2⟩
    by_cases h0 : n / 1000 < 10
    · rw [Lib.decDigits_one h0] at h1; simp at h1
    · exact e (by omega) h2
  have hval : dQ (Lib.decDigits (n / 1000) ++ (cutZ (three (n % 1000)) ++ [48, 48, 48]).take 3) = n := by
    rw [val_three _ _ f5, b, f3]; omega
  have key : ∀ t : List UInt8, ∀ i, t.findIdx (· == 46) = i → t.take i = Lib.decDigits (n / 1000) → t.drop (i + 1) = cutZ (three (n % 1000)) → ¬ (i < t.length ∧ (cutZ (three (n % 1000)) = [] ∨ 3 < (cutZ (three (n % 1000))).length)) → numL t = ((n : Int), 0) := by
    intro t i hi ht hp hc
    unfold numL
    simp only [hi, ht, hp]
    rw [if_neg (by rintro (h | h | h); exact c h; exact hhead h; exact hc h), if_neg (by rw [List.all_append, hall, f1]; decide), if_neg (by omega), hval, if_neg (by omega)]
  have hidx : ∀ r : List UInt8, (Lib.decDigits (n / 1000) ++ 46 :: r).findIdx (· == 46) = (Lib.decDigits (n / 1000)).length := by
    intro r
    rw [List.findIdx_append, if_neg]
    · rw [List.findIdx_cons]; simp
    · intro h
      rw [List.findIdx_lt_length] at h
      obtain ⟨x, hx, hy⟩ := h
      exact hno x hx hy
  unfold numS
  by_cases hz : cutZ (three (n % 1000)) = []
  · rw [if_pos hz, List.append_nil]
    refine key _ (Lib.decDigits (n / 1000)).length (List.findIdx_eq_length.2 fun x hx => by simpa using hno x hx) (List.take_length ..) ?_ (by omega)
    rw [hz, List.drop_eq_nil_of_le (by omega)]
  · rw [if_neg hz]
    refine key _ _ (hidx _) List.take_left ?_ ?_
    · rw [← List.drop_drop, List.drop_left]; rfl
    · rintro ⟨_, h | h⟩
      · exact hz h
      · omega
def dR (k : Int) (t : List UInt8) (n : Int) : Bool :=
  if k ≠ 2 ∧ n ≠ 0 then false
  else if k = 1 then t.all bQ && wordL t == 0
  else if k = 2 then t == [] && decide (0 ≤ n) && decide (n ≤ 1000000000)
  else if k = 3 then iU t == 0
  else if k = 4 then t.length == 1 && t.all fun c => kindOf c.toNat == 5
  else if k = 5 then t == [] else false
def dL (k : Int) (t : List UInt8) (n : Int) : List UInt8 :=
  if k = 3 then 34 :: t ++ [34] else if k = 2 then (if 0 ≤ n ∧ n ≤ 1000000000 then numS n.toNat else []) else if k = 1 ∨ k = 4 then t else []
theorem str_append (a b : List UInt8) : str a ++ str b = str (a ++ b) := by
  apply ic; rw [iK]; rfl
theorem dec_len (u : Nat) (hu : u ≤ 10000000) : (Lib.decDigits u).length ≤ 8 := by
  rw [Lib.decDigits_length]
  by_cases h0 : u < 10
  · rw [Lib.nDigits_small h0]; omega
  · have := Lib.nDigits_unique
    rcases (by omega : (10 ≤ u ∧ u < 100) ∨ (100 ≤ u ∧ u < 1000) ∨ (1000 ≤ u ∧ u < 10000) ∨ (10000 ≤ u ∧ u < 100000) ∨ (100000 ≤ u ∧ u < 1000000) ∨ (1000000 ≤ u ∧ u < 10000000) ∨ (10000000 ≤ u ∧ u < 100000000)) with h | h | h | h | h | h | h
    · rw [this 1 u (by omega) (by omega)]; omega
    · rw [this 2 u (by omega) (by omega)]; omega
    · rw [this 3 u (by omega) (by omega)]; omega
    · rw [this 4 u (by omega) (by omega)]; omega
    · rw [this 5 u (by omega) (by omega)]; omega
    · rw [this 6 u (by omega) (by omega)]; omega
    · rw [this 7 u (by omega) (by omega)]; omega
theorem fmt_f (n : Nat) (hn : n ≤ 2000000000) : bW.f (n : Int) 10 = some (str (Lib.decDigits n)) := by
  unfold bW.f
  rw [if_pos (by omega)]
  rfl
theorem tw_all {α : Type} {p : α → Bool} : ∀ {l : List α}, l.all p = true → l.takeWhile p = l ∧ l.dropWhile p = []
  | [], _ => ⟨rfl, rfl⟩
  | a :: l, h => by
    rw [List.all_cons, Bool.and_eq_true] at h
    obtain ⟨h1, h2⟩ := tw_all (l := l) h.2
    exact ⟨by rw [List.takeWhile_cons_of_pos h.1, h1], by rw [List.dropWhile_cons_of_pos h.1, h2]⟩
theorem run_no {c : UInt8} (h : bQ c = true) : c.toNat ≠ 34 ∧ kindOf c.toNat ≠ 5 ∧ c.toNat ≠ 35 ∧ kindOf c.toNat ≠ 1 := by
  unfold bQ at h
  simp only [Bool.or_eq_true, beq_iff_eq] at h
  have h2 := kind2 c.toNat; have h3 := kind3 c.toNat; have h4 := kind4 c.toNat
  refine ⟨?_, ?_, ?_, ?_⟩ <;> omega
theorem tok_run (t : List UInt8) (h : t ≠ []) (ha : t.all bQ = true) : tokL t = clsL t [] := by
  cases t with
  | nil => exact absurd rfl h
  | cons c l =>
    rw [List.all_cons, Bool.and_eq_true] at ha
    obtain ⟨h1, h2⟩ := tw_all ha.2
    unfold tokL
    dsimp only
    rw [if_pos ha.1, h1, h2]
def kZ (k : Int) (t : List UInt8) (n : Int) (s : List UInt8) : Prop := (tokL s).code = 0 ∧ (tokL s).rest = [] ∧ (tokL s).kind = k ∧ (tokL s).text = t ∧ (tokL s).n = n
theorem kJ {c : UInt8} (h : fC c = true) : bQ c = true := by
  unfold fC at h; unfold bQ
  rw [beq_iff_eq] at h
  rw [h]; rfl
theorem numS_run (n : Nat) : (numS n).all bQ = true ∧ numS n ≠ [] := by
  obtain ⟨a, _, c, _, _⟩ := dec_spec (n / 1000)
  obtain ⟨f1, _⟩ := cut_fin ⟨n % 1000, Nat.mod_lt _ (by decide)⟩
  dsimp only at f1
  have h1 : (Lib.decDigits (n / 1000)).all bQ = true := List.all_eq_true.2 fun x hx => kJ (dig_of (a x hx))
  have h2 : (cutZ (three (n % 1000))).all bQ = true := List.all_eq_true.2 fun x hx => kJ (List.all_eq_true.1 f1 x hx)
  unfold numS
  refine ⟨?_, by intro h; exact c (List.append_eq_nil_iff.1 h).1⟩
  rw [List.all_append, h1, Bool.true_and]
  split
  · rfl
  · rw [List.all_cons, h2]; rfl
theorem numS_len (n : Nat) (hn : n ≤ 1000000000) : (numS n).length ≤ 12 := by
  have h := dec_len (n / 1000) (by omega)
  obtain ⟨_, f2, _⟩ := cut_fin ⟨n % 1000, Nat.mod_lt _ (by decide)⟩
  dsimp only at f2
  unfold numS
  rw [List.length_append]
  split
  · simp; omega
  · rw [List.length_cons]; omega
theorem wordL_zero {t : List UInt8} (h : wordL t = 0) : t ≠ [] ∧ t.length ≤ 32 ∧ t.any isLet = true := by
  unfold wordL at h
  by_cases hd : t.any lq = true
  · rw [if_pos hd] at h; cases h
  · rw [if_neg hd] at h
    by_cases hl : t.any isLet = true
    · rw [if_pos hl] at h
      by_cases h32 : 32 < t.length
      · rw [if_pos h32] at h; cases h
      · refine ⟨?_, by omega, hl⟩
        intro e; subst e; cases hl
    · rw [if_neg hl] at h; cases h
theorem titleL_zero {t : List UInt8} (h : iU t = 0) : t ≠ [] ∧ t.length ≤ 40 ∧ t.all fG = true := by
  unfold iU at h
  by_cases h1 : t = [] ∨ t.head? = some 32 ∨ t.getLast? = some 32
  · rw [if_pos h1] at h; cases h
  · rw [if_neg h1] at h
    by_cases h2 : t.any badT = true
    · rw [if_pos h2] at h; cases h
    · rw [if_neg h2] at h
      by_cases h3 : 40 < t.length
      · rw [if_pos h3] at h; cases h
      · refine ⟨fun e => h1 (.inl e), by omega, ?_⟩
        rw [List.all_eq_true]
        intro x hx
        have hb : badT x = false := by
          cases hb : badT x with
          | false => rfl
          | true => exact absurd (List.any_eq_true.2 ⟨x, hx, hb⟩) h2
        unfold badT at hb
        simp only [Bool.or_eq_false_iff, decide_eq_false_iff_not, beq_eq_false_iff_ne] at hb
        unfold fG
        simp only [Bool.and_eq_true, bne_iff_ne]
        omega
theorem tok_quote (t : List UInt8) (h : t.all fG = true) : tokL (34 :: t ++ [34]) = ⟨3, t, 0, [], iU t⟩ := by
  have e : tokL (34 :: t ++ [34]) = gQ (t ++ [34]) := by
    have hr : bQ 34 = false := by decide
    have : tokL (34 :: (t ++ [34])) = gQ (t ++ [34]) := by
      unfold tokL; dsimp only; rw [if_neg (by simp [hr]), if_pos (by rfl)]
    exact this
  obtain ⟨h1, h2⟩ := tw_all h
  have t1 : (t ++ [34]).takeWhile fG = t := by
    rw [List.takeWhile_append, if_pos (by rw [h1]), List.takeWhile_cons_of_neg (by decide), List.append_nil]
  have t2 : (t ++ [34]).dropWhile fG = [34] := by
    rw [List.dropWhile_append, if_pos (by rw [h2]; rfl), List.dropWhile_cons_of_neg (by decide)]
  rw [e]
  unfold gQ
  rw [t1, t2]
  rfl
theorem jO {k n : Int} {t : List UInt8} (h : dR k t n = true) (h5 : k ≠ 5) : kZ k t n (dL k t n) ∧ dL k t n ≠ [] ∧ (dL k t n).length ≤ 60 := by
  unfold dR at h
  by_cases hn : k ≠ 2 ∧ n ≠ 0
  · rw [if_pos hn] at h; cases h
  · rw [if_neg hn] at h
    by_cases h1 : k = 1
    · subst h1
      obtain rfl : n = 0 := by omega
      rw [if_pos rfl, Bool.and_eq_true, beq_iff_eq] at h
      obtain ⟨g1, g2, g3⟩ := wordL_zero h.2
      have e : dL 1 t 0 = t := by simp [dL]
      rw [e]
      refine ⟨?_, g1, by omega⟩
      unfold kZ
      rw [tok_run t g1 h.1]
      unfold clsL
      rw [if_pos (let_num t g3), h.2]
      exact ⟨rfl, rfl, rfl, rfl, rfl⟩
    · rw [if_neg h1] at h
      by_cases h2 : k = 2
      · subst h2
        rw [if_pos rfl, Bool.and_eq_true, Bool.and_eq_true, decide_eq_true_eq, decide_eq_true_eq, beq_iff_eq] at h
        obtain ⟨⟨rfl, g0⟩, g1⟩ := h
        obtain ⟨m, rfl⟩ : ∃ m : Nat, n = (m : Int) := ⟨n.toNat, by omega⟩
        have e : dL 2 [] (m : Int) = numS m := by
          unfold dL
          rw [if_neg (by decide), if_pos rfl, if_pos ⟨g0, g1⟩]; rfl
        obtain ⟨r1, r2⟩ := numS_run m
        have hl := numS_len m (by omega)
        rw [e]
        refine ⟨?_, r2, by omega⟩
        unfold kZ
        rw [tok_run _ r2 r1]
        unfold clsL
        rw [numL_numS m (by omega), if_neg (show ¬ (0 : Int) = 2 by decide)]
        exact ⟨rfl, rfl, rfl, rfl, rfl⟩
      · rw [if_neg h2] at h
        obtain rfl : n = 0 := by omega
        by_cases h3 : k = 3
        · subst h3
          rw [if_pos rfl, beq_iff_eq] at h
          obtain ⟨g1, g2, g3⟩ := titleL_zero h
          have e : dL 3 t 0 = 34 :: t ++ [34] := by simp [dL]
          rw [e]
          refine ⟨?_, by simp, by simp; omega⟩
          unfold kZ
          rw [tok_quote t g3]
          exact ⟨h, rfl, rfl, rfl, rfl⟩
        · rw [if_neg h3] at h
          by_cases h4 : k = 4
          · subst h4
            rw [if_pos rfl, Bool.and_eq_true, beq_iff_eq] at h
            have e : dL 4 t 0 = t := by simp [dL]
            rw [e]
            match t, h with
            | [c], h =>
              have hc : kindOf c.toNat = 5 := by simpa using h.2
              refine ⟨?_, by simp, by simp⟩
              unfold kZ
              have h34 : c.toNat ≠ 34 := by have := kind5 c.toNat; omega
              have : tokL [c] = ⟨4, [c], 0, [], 0⟩ := by
                unfold tokL; dsimp only
                rw [if_neg (by simp [bQ, hc]), if_neg h34, if_pos hc]
              rw [this]
              exact ⟨rfl, rfl, rfl, rfl, rfl⟩
          · rw [if_neg h4, if_neg h5] at h; cases h
theorem Ev.const {α : Type} {x : Option α} {r : α} (h : x = some r) : Ev (fun _ => x) r := by subst h; exact Ev.now r
theorem skip_tok (c : UInt8) (l : List UInt8) (h : (tokL (c :: l)).code = 0) : dw false (c :: l) = c :: l := by
  have hno : c.toNat ≠ 35 ∧ kindOf c.toNat ≠ 1 := by
    by_cases hr : bQ c = true
    · have := run_no hr; exact ⟨this.2.2.1, this.2.2.2⟩
    · by_cases h34 : c.toNat = 34
      · rw [h34]; exact ⟨by decide, by decide⟩
      · by_cases h5 : kindOf c.toNat = 5
        · have h1 := kind5 c.toNat
          exact ⟨by omega, by omega⟩
        · exfalso
          have e : tokL (c :: l) = ⟨0, [], 0, [], 2⟩ := by
            unfold tokL; dsimp only; rw [if_neg hr, if_neg h34, if_neg h5]
          rw [e] at h; cases h
  unfold dw
  rw [if_neg hno.1, if_neg hno.2]
end Go.Proofs.YtkifdadhojbohaaGreatDoor.Pu
namespace Go.Proofs.YtkifdadhojbohaaGreatDoor.Pr
open Go.Proofs.YtkifdadhojbohaaGreatDoor
open Go.RowKit Go.Proofs.YtkifdadhojbohaaGreatDoorW.PrintWords Go.Proofs.YtkifdadhojbohaaGreatDoorW.PrintLast Go.Proofs.YtkifdadhojbohaaGreatDoorW.PrintMore
attribute [local go_sem] fU fQ gL gK eT eQ fT fP
mutual
def bq.l0 : Nat → Int → List (S41) → Int → Int → Option (Int)
 | 0, _, _, _, _ => none
 | k + 1, x3, x6, x7, x8 => if x8 < x7 then (if 0 ≤ x8 then (if x8 < (x6.length : Int) then (if (au x6 x8).f2 = true then ((bq.f k ((au x6 x8).f3)).bind fun t181 => (bq.l0 k (mx x3 (wrap64 (1 + t181))) x6 x7 (wrap64 (x8 + 1)))) else (bq.l0 k x3 x6 x7 (wrap64 (x8 + 1)))) else (none)) else (none)) else (some x3)
def bq.f : Nat → List (S41) → Option (Int)
 | 0, _ => none
 | k + 1, l0 => bq.l0 k 0 l0 (l0.length : Int) 0
end
theorem bq.mono_l : ∀ k, (∀ y0, LeO (bq.f k y0) (bq.f (k + 1) y0)) ∧ (∀ y0 y1 y2 y3, LeO (bq.l0 k y0 y1 y2 y3) (bq.l0 (k + 1) y0 y1 y2 y3))
 | 0 => ⟨fun _ r h => by simp [bq.f] at h, fun _ _ _ _ r h => by simp [bq.l0] at h⟩
 | k + 1 => by
  obtain ⟨ih0, ih1⟩ := bq.mono_l k
  refine ⟨?_, ?_⟩
  ·
   intro y0
   unfold bq.f
   repeat' first
   | (with_reducible exact LeO.refl _)
   | exact ih0 _
   | exact ih1 _ _ _ _
   | exact LeO.none _
   | refine LeO.ite ?_ ?_
   | refine LeO.bind ?_ (fun _ => ?_)
  ·
   intro y0 y1 y2 y3
   unfold bq.l0
   repeat' first
   | (with_reducible exact LeO.refl _)
   | exact ih0 _
   | exact ih1 _ _ _ _
   | exact LeO.none _
   | refine LeO.ite ?_ ?_
   | refine LeO.bind ?_ (fun _ => ?_)
theorem bq.mono : ∀ a0 k, LeO (bq.f k a0) (bq.f (k + 1) a0) := by
 intro a0 k
 obtain ⟨ih0, ih1⟩ := bq.mono_l k
 exact ih0 a0
theorem bq.calls (k : Nat) : ∀ (A0 : Option Addr) (c0 : Nat) (l0 : List (S41)) (r : Int) (w : World) (hr0 : Kd.C k41 w A0 l0.length l0) (hc0 : l0.length ≤ c0) (h : bq.f k l0 = some r),
  Calls Tryz.prog 40 #[.slice A0 l0.length c0] w fun e w' => e = .returned (.int .i64 r) ∧ Below w.heap.size w w' := by
 induction k using Nat.strongRecOn with
 | _ k ih =>
 intro A0 c0 l0 r w hr0 hc0 h
 cases k with
 | zero => exact absurd h (by simp [bq.f])
 | succ k =>
 simp only [bq.f] at h; have hu41 := Tryz.underlying25; have HR0 := af.mk hr0; have HC0 := af.mk hc0; clear hr0 hc0; have HB := af.mk (Below.refl w.heap.size w); have H : (bq.l0 k 0 l0 (l0.length : Int) 0) = some r := h; clear h; have H' := af.mk H; clear H
 go_enter Tryz.func40, Tryz.ntmps40
 go_wp2
 go_loopg [3, 8] k (fun kq v3 v8 w' => ∃ (x3_1 : Int) (x8_1 : Int), v3 = .int .i64 x3_1 ∧ v8 = .int .i64 x8_1 ∧ af (bq.l0 kq x3_1 l0 (l0.length : Int) x8_1 = some r) ∧ af (kq ≤ k) ∧ af (Below w.heap.size w w'))
 case atStart => exact ⟨(0), (0), sr_, sr_, H', ⟨Nat.le_refl _⟩, ⟨bl_ HB.1⟩⟩
 case round =>
  clear H'; obtain ⟨x3_1, x8_1, rfl, rfl, HA, HK1, HB⟩ := hrel; obtain _ | k1 := gk
  · exact absurd HA.1 (by simp [bq.l0])
  have H := HA.1; clear HA; simp only [bq.l0] at H; replace H := (sd_ H).symm; obtain ⟨c2b0, H⟩ | ⟨c2b0, H⟩ := H
  ·
   obtain rfl := Option.some.inj H
   go_wp2
   go_ret
   exact ⟨er_, bl_ HB.1⟩
  replace H := gd_ H; obtain ⟨c3b0, H⟩ := H; replace H := gd_ H; obtain ⟨c4b0, H⟩ := H; obtain ⟨bq5, hbq5⟩ : ∃ b_ : Bool, b_ = ((au l0 x8_1).f2) := ⟨_, rfl⟩; replace H : (if bq5 = true then ((bq.f k1 ((au l0 x8_1).f3)).bind fun t181 => (bq.l0 k1 (mx x3_1 (wrap64 (1 + t181))) l0 (l0.length : Int) (wrap64 (x8_1 + 1)))) else (bq.l0 k1 x3_1 l0 (l0.length : Int) (wrap64 (x8_1 + 1)))) = some r := by rw [← hbq5] at H; exact H
  have Nbq5 := af.mk hbq5; clear hbq5; replace H := (sb_ H).symm; obtain ⟨rfl, H⟩ | ⟨rfl, H⟩ := H
  ·
   have H' := af.mk H; clear H; have p179 : 0 ≤ (x8_1 : Int) := dt_; have q179 : x8_1 < (l0.length : Int) := dt_; obtain ⟨ad179, A179_1, c179_1, A179_3, c179_3, e179, hx179_0, hx179_1, hx179_2, hx179_3, hx179_4, hl179_1, hi179_1, hl179_3, hi179_3⟩ := iQ HR0.1 x8_1 p179 q179; (try rw [← Nbq5.1] at hx179_2); cases e179; replace hx179_0 := ae HB.1 hx179_0; replace hx179_1 := ae HB.1 hx179_1; replace hx179_2 := ae HB.1 hx179_2; replace hx179_3 := ae HB.1 hx179_3; replace hx179_4 := ae HB.1 hx179_4; have HR179_1 := af.mk hi179_1; have HC179_1 := af.mk hl179_1; clear hi179_1 hl179_1; have HR179_3 := af.mk hi179_3; have HC179_3 := af.mk hl179_3; clear hi179_3 hl179_3; replace p179 := eq_true p179; replace q179 := eq_true q179
   go_wp2_with (first | ((with_reducible refine aA (N := 5) rfl ?_); refine bx_ (N := 5) (cs := #[.string (⟨#[]⟩ : ByteArray), .slice none 0 0, .bool false, .slice none 0 0, .int .i64 0]) (t := 25) ?_; intro gb180 hg w12 hbox hb; refine df (ah (bl_ HB.1) hb) (hbox) (bz_ (w := w) hg (bl_ HB.1)) (bz_ (w := w) hg (bl_ HB.1)) ?_; clear HB; intro HB BK180 GW180 GE180; clear hb hbox hg; obtain ⟨hcz13_0, hcz13_1, hcz13_2, hcz13_3, hcz13_4, hfz13_0, hfz13_1, hfz13_2, hfz13_3, hfz13_4⟩ := cq5_ BK180.1))
   go_roundg k1
   case measure => have := HK1.1; omega
   case rel => exact ⟨(x3_1), (wrap64 (x8_1 + 1)), sr_, sr_, H', ⟨om_ HK1.1⟩, ⟨bl1_ HB.1 GE180.1⟩⟩
  replace H := bn_ H; obtain ⟨t181, A7, H⟩ := H; (try dsimp only at H); obtain ⟨ji8, hji8⟩ : ∃ j_ : Int, (mx x3_1 (wrap64 (1 + t181))) = j_ := ⟨_, rfl⟩; replace H : (bq.l0 k1 ji8 l0 (l0.length : Int) (wrap64 (x8_1 + 1))) = some r := by first | (rw [hji8] at H; exact H) | (simp only [hji8] at H ⊢; exact H)
  (try rw [hji8] at A7); have hji8_ : (if x3_1 < (wrap64 (1 + t181)) then (wrap64 (1 + t181)) else x3_1) = ji8 := hji8; have H' := af.mk H; clear H; have p179 : 0 ≤ (x8_1 : Int) := dt_; have q179 : x8_1 < (l0.length : Int) := dt_; obtain ⟨ad179, A179_1, c179_1, A179_3, c179_3, e179, hx179_0, hx179_1, hx179_2, hx179_3, hx179_4, hl179_1, hi179_1, hl179_3, hi179_3⟩ := iQ HR0.1 x8_1 p179 q179; (try rw [← Nbq5.1] at hx179_2); cases e179; replace hx179_0 := ae HB.1 hx179_0; replace hx179_1 := ae HB.1 hx179_1; replace hx179_2 := ae HB.1 hx179_2; replace hx179_3 := ae HB.1 hx179_3; replace hx179_4 := ae HB.1 hx179_4; have HR179_1 := af.mk hi179_1; have HC179_1 := af.mk hl179_1; clear hi179_1 hl179_1; have HR179_3 := af.mk hi179_3; have HC179_3 := af.mk hl179_3; clear hi179_3 hl179_3; replace p179 := eq_true p179; replace q179 := eq_true q179
  go_wp2_with (first | ((with_reducible refine aA (N := 5) rfl ?_); refine bx_ (N := 5) (cs := #[.string (⟨#[]⟩ : ByteArray), .slice none 0 0, .bool false, .slice none 0 0, .int .i64 0]) (t := 25) ?_; intro gb180 hg w9 hbox hb; refine df (ah (bl_ HB.1) hb) (hbox) (bz_ (w := w) hg (bl_ HB.1)) (bz_ (w := w) hg (bl_ HB.1)) ?_; clear HB; intro HB BK180 GW180 GE180; clear hb hbox hg; obtain ⟨hcz10_0, hcz10_1, hcz10_2, hcz10_3, hcz10_4, hfz10_0, hfz10_1, hfz10_2, hfz10_3, hfz10_4⟩ := cq5_ BK180.1) | ((with_reducible refine aj (f := 40) rfl ?_); refine gk_ (some 17) Tryz.func40 (ih k1 (by have := HK1.1; omega) _ _ ((au l0 x8_1).f3) t181 _ ?side1 ?side2 A7.1) ?_; (case side1 => exact Kd.di HR179_3.1 (bl1_ HB.1 GE180.1)); (case side2 => exact HC179_3.1); rintro e w11 ⟨rfl, hb⟩; refine ⟨_, rfl, ?_⟩; refine fK (aZ (g := gb180) (o := .cells #[.string ((au l0 x8_1).f0), .slice A179_1 ((au l0 x8_1).f1).length c179_1, .bool true, .slice A179_3 ((au l0 x8_1).f3).length c179_3, .int .i64 ((au l0 x8_1).f4)] 25 (0, 0)) (ik (bk_ BK180.1)) hb) (ah (bl1_ HB.1 GE180.1) hb) ?_; clear hb BK180 HB; intro BK180 HB))
  go_roundg k1
  case measure => have := HK1.1; omega
  case rel => exact ⟨(ji8), (wrap64 (x8_1 + 1)), (by first | rfl | (simp; done) | (simp only [← hji8] <;> (first | rfl | simp)) | (simp [*]; done)), sr_, H', ⟨om_ HK1.1⟩, ⟨bl1_ HB.1 GE180.1⟩⟩
end Go.Proofs.YtkifdadhojbohaaGreatDoor.Pr
namespace Go.Proofs.YtkifdadhojbohaaGreatDoor.Pu
open Go.RowKit Go.Proofs.YtkifdadhojbohaaGreatDoor Go.Proofs.YtkifdadhojbohaaGreatDoor.Pr Go.Proofs.YtkifdadhojbohaaGreatDoorW.PrintWords Go.Proofs.YtkifdadhojbohaaGreatDoorW.PrintLast Go.Proofs.YtkifdadhojbohaaGreatDoorW.PrintMore
theorem iP (c : S41) (l : List S41) : SizeOf.sizeOf c.f3 < SizeOf.sizeOf (c :: l) := by
  cases c; simp; omega
theorem iO (c : S41) (l : List S41) : SizeOf.sizeOf l < SizeOf.sizeOf (c :: l) := by
  simp; omega
theorem indL {P : List S41 → Prop} (h0 : P []) (h1 : ∀ c l, P c.f3 → P l → P (c :: l)) : ∀ l, P l := by
  have key : ∀ n, ∀ l : List S41, SizeOf.sizeOf l < n → P l := by
    intro n
    induction n with
    | zero => intro l h; omega
    | succ n ih =>
      intro l h
      cases l with
      | nil => exact h0
      | cons c l => exact h1 c l (ih _ (by have := iP c l; omega)) (ih _ (by have := iO c l; omega))
  exact fun l => key (SizeOf.sizeOf l + 1) l (by omega)
def depL : List S41 → Nat
  | [] => 0
  | c :: l => max (if c.f2 = true then 1 + depL c.f3 else 0) (depL l)
termination_by l => SizeOf.sizeOf l
decreasing_by
  · exact iP c l
  · exact iO c l
def szL : List S41 → Nat
  | [] => 0
  | c :: l => 1 + c.f1.length + szL c.f3 + szL l
termination_by l => SizeOf.sizeOf l
decreasing_by
  · exact iP c l
  · exact iO c l
def okA (t : S46) : Bool := isA t && dR t.f0 (lst t.f1) t.f2
def gZ : List S41 → Bool
  | [] => true
  | c :: l => dR 1 (lst c.f0) 0 && (c.f2 || c.f3.isEmpty) && c.f1.all okA && gZ c.f3 && gZ l
termination_by l => SizeOf.sizeOf l
decreasing_by
  · exact iP c l
  · exact iO c l
def sgT (b : UInt8) : S46 := ⟨4, (⟨#[b]⟩ : ByteArray), 0, 0⟩
def dD : List S41 → List S46
  | [] => []
  | c :: l => ⟨1, c.f0, 0, 0⟩ :: c.f1 ++ (if c.f2 = true then sgT 123 :: dD c.f3 ++ [sgT 125] else [sgT 59]) ++ dD l
termination_by l => SizeOf.sizeOf l
decreasing_by
  · exact iP c l
  · exact iO c l
inductive AllC (P : S41 → Prop) : List S41 → Prop
  | nil : AllC P []
  | cons (c : S41) (l : List S41) : P c → AllC P c.f3 → AllC P l → AllC P (c :: l)
def txt (n : Nat) (c : S41) : Prop := c.f0.size ≤ n ∧ ∀ a ∈ c.f1, a.f1.size ≤ n
theorem dep_le : ∀ l, depL l ≤ szL l := by
  refine indL (by simp [depL]) ?_
  intro c l h1 h2
  rw [depL, szL]
  split <;> omega
theorem je : ∀ l : List S41, l.length ≤ szL l := by
  refine indL (by simp) ?_
  intro c l h1 h2
  rw [szL, List.length_cons]
  omega
theorem toks_le : ∀ l, (dD l).length ≤ 3 * szL l := by
  refine indL (by simp [dD]) ?_
  intro c l h1 h2
  rw [dD, szL]
  split <;> simp <;> omega
theorem mx_nat (a b : Nat) : mx (a : Int) (b : Int) = ((max a b : Nat) : Int) := by
  unfold mx
  split <;> omega
theorem Depth_f : ∀ l, szL l ≤ 900000 → Ev (fun k => bq.f k l) (depL l : Int) := by
  have loop : ∀ l, szL l ≤ 900000 → ∀ (A : List S41) (i m : Nat), A.drop i = l → A.length ≤ 900000 → m ≤ 900000 → i ≤ A.length → Ev (fun k => bq.l0 k (m : Int) A (A.length : Int) (i : Int)) ((max m (depL l) : Nat) : Int) := by
    refine indL ?_ ?_
    · intro _ A i m hA hn hm hi
      have : A.length ≤ i := by
        have := congrArg List.length hA
        rw [List.length_drop] at this
        simp at this; omega
      refine Ev.succ ?_
      simp only [bq.l0]
      exact Ev.ifn (by omega) (Ev.ret (by simp [depL]))
    · intro c l h1 h2 hs A i m hA hn hm hi
      rw [szL] at hs
      obtain ⟨a1, a2, a3⟩ := kC hA
      have hd := dep_le c.f3
      have hc := je c.f3
      refine Ev.succ ?_
      simp only [bq.l0, a2]
      rw [bU i (by omega)]
      refine Ev.ifp (by omega) (Ev.ifp natO (Ev.ifp (by omega) ?_))
      by_cases hb : c.f2 = true
      · refine Ev.ifp hb (Ev.bind (a := ((depL c.f3 : Nat) : Int)) ?_ ?_)
        · refine Ev.succ ?_
          simp only [bq.f]
          simpa using h1 (by omega) c.f3 0 0 rfl (by omega) (by omega) (by omega)
        · have e : wrap64 (1 + ((depL c.f3 : Nat) : Int)) = ((1 + depL c.f3 : Nat) : Int) := by rw [gq (by omega) (by omega)]; omega
          rw [e, mx_nat]
          have := h2 (by omega) A (i + 1) (max m (1 + depL c.f3)) a3 hn (by omega) (by omega)
          rw [depL, if_pos hb]
          rwa [← Nat.max_assoc]
      · refine Ev.ifn hb ?_
        have := h2 (by omega) A (i + 1) m a3 hn (by omega) (by omega)
        rw [depL, if_neg hb]
        simpa using this
  intro l hl
  have := je l
  refine Ev.succ ?_
  simp only [bq.f]
  simpa using loop l hl l 0 0 rfl (by omega) (by omega) (by omega)
def chkL (l : List S41) : Int := if gZ l = true then (if 8 < depL l then 6 else 0) else 2
theorem RL.facts {o : Nat} {ts : List S46} {x : Ans} (h : RL o ts x) : o ≤ 8 → ∀ cs r, x = .ok (cs, r) → szL cs + r.length ≤ ts.length ∧ depL cs + o ≤ 8 ∧ (dD cs).length + r.length = ts.length := by
  induction h with
  | stop o t r => intro ho cs r' hx; cases hx; simp [szL, depL, dD]; exact ho
  | bad => intro _ cs r hx; cases hx
  | semi o t ats u r x h1 h2 h3 hr ih =>
    intro ho cs q hx
    cases x with
    | error e => cases hx
    | ok y =>
      cases hx
      obtain ⟨g1, g2, g3⟩ := ih ho _ _ rfl
      rw [szL, depL, dD]
      simp [szL]
      omega
  | syn => intro _ cs r hx; cases hx
  | lim => intro _ cs r hx; cases hx
  | blk o t ats u r ks b q x ho h1 h2 h3 hk hr ihk ih =>
    intro ho' cs q' hx
    cases x with
    | error e => cases hx
    | ok y =>
      cases hx
      obtain ⟨g1, g2, g3⟩ := ihk (by omega) _ _ rfl
      obtain ⟨k1, k2, k3⟩ := ih ho' _ _ rfl
      rw [szL, depL, dD]
      simp at g1 g3 ⊢
      omega
  | blkF => intro _ cs r hx; cases hx
theorem RL.form {o : Nat} {ts : List S46} {x : Ans} (h : RL o ts x) : (∀ t ∈ ts, dR t.f0 (lst t.f1) t.f2 = true ∧ t.f1.size ≤ 900000) → ∀ cs r, x = .ok (cs, r) → gZ cs = true ∧ AllC (txt 900000) cs := by
  have hword : ∀ t : S46, dR t.f0 (lst t.f1) t.f2 = true → t.f0 = 1 → dR 1 (lst t.f1) 0 = true := by
    intro t hv h1
    rw [h1] at hv
    by_cases hn : t.f2 = 0
    · rwa [hn] at hv
    · unfold dR at hv
      rw [if_pos ⟨by decide, hn⟩] at hv
      cases hv
  induction h with
  | stop => intro _ cs r hx; cases hx; exact ⟨by simp [gZ], AllC.nil⟩
  | bad => intro _ cs r hx; cases hx
  | semi o t ats u r x h1 h2 h3 hr ih =>
    intro hv cs q hx
    cases x with
    | error e => cases hx
    | ok y =>
      cases hx
      obtain ⟨g1, g2⟩ := ih (fun a ha => hv a (by simp [ha])) _ _ rfl
      refine ⟨?_, AllC.cons _ _ ⟨(hv t (by simp)).2, fun a ha => (hv a (by simp [show a ∈ ats from ha])).2⟩ AllC.nil g2⟩
      rw [gZ]
      have ha : ats.all okA = true := List.all_eq_true.2 (fun a ha => by simp [okA, h2 a ha, (hv a (by simp [ha])).1])
      simp [hword t (hv t (by simp)).1 h1, g1, gZ]
      simpa using ha
  | syn => intro _ cs r hx; cases hx
  | lim => intro _ cs r hx; cases hx
  | blk o t ats u r ks b q x ho h1 h2 h3 hk hr ihk ih =>
    intro hv cs q' hx
    cases x with
    | error e => cases hx
    | ok y =>
      cases hx
      obtain ⟨g1, g2⟩ := ihk (fun a ha => hv a (by simp [ha])) _ _ rfl
      obtain ⟨b', q0, pk, f1, f2, f3, f4, f5⟩ := hk.frame _ _ rfl
      obtain ⟨k1, k2⟩ := ih (fun a ha => hv a (by rw [f4]; simp [ha])) _ _ rfl
      refine ⟨?_, AllC.cons _ _ ⟨(hv t (by simp)).2, fun a ha => (hv a (by simp [show a ∈ ats from ha])).2⟩ g2 k2⟩
      rw [gZ]
      have ha : ats.all okA = true := List.all_eq_true.2 (fun a ha => by simp [okA, h2 a ha, (hv a (by simp [ha])).1])
      simp [hword t (hv t (by simp)).1 h1, g1, k1]
      simpa using ha
  | blkF => intro _ cs r hx; cases hx
end Go.Proofs.YtkifdadhojbohaaGreatDoor.Pu
namespace Go.Proofs.YtkifdadhojbohaaGreatDoor.Pr
open Go.Proofs.YtkifdadhojbohaaGreatDoor
open Go.RowKit Go.Proofs.YtkifdadhojbohaaGreatDoorW.PrintWords Go.Proofs.YtkifdadhojbohaaGreatDoorW.PrintLast Go.Proofs.YtkifdadhojbohaaGreatDoorW.PrintMore
attribute [local go_sem] fU fQ gL gK eT eQ fT fP
mutual
def az.j0 (QF : Nat → List S41 → List S41 → Bool → Option Bool) : Nat → Bool → Bool → ByteArray → List (S46) → Bool → List (S41) → Int → ByteArray → List (S46) → Bool → List (S41) → Int → Option (Bool)
 | 0, _, _, _, _, _, _, _, _, _, _, _, _ => none
 | k + 1, x2, x40, x102000, x102001, x102002, x102003, x102004, x103000, x103001, x103002, x103003, x103004 => if x40 = true then (some false) else (az.l0 QF k x2 0 x102000 x102001 x102002 x102003 x102004 x103000 x103001 x103002 x103003 x103004)
def az.l0 (QF : Nat → List S41 → List S41 → Bool → Option Bool) : Nat → Bool → Int → ByteArray → List (S46) → Bool → List (S41) → Int → ByteArray → List (S46) → Bool → List (S41) → Int → Option (Bool)
 | 0, _, _, _, _, _, _, _, _, _, _, _, _ => none
 | k + 1, x2, x7, x102000, x102001, x102002, x102003, x102004, x103000, x103001, x103002, x103003, x103004 => if x7 < (x102001.length : Int) then (if 0 ≤ x7 then (if x7 < (x103001.length : Int) then (if ((ag x102001 x7).f0) = ((ag x103001 x7).f0) then (if ((ag x102001 x7).f1).toList = ((ag x103001 x7).f1).toList then (if ((ag x102001 x7).f2) = ((ag x103001 x7).f2) then (if x2 = true then (none) else (az.l0 QF k x2 (wrap64 (x7 + 1)) x102000 x102001 x102002 x102003 x102004 x103000 x103001 x103002 x103003 x103004)) else (some false)) else (some false)) else (some false)) else (none)) else (none)) else ((QF k x102003 x103003 x2).bind fun t107 => (some t107))
end
def az.f (QF : Nat → List S41 → List S41 → Bool → Option Bool) (k : Nat) (a0_0 : ByteArray) (l0_1 : List (S46)) (a0_2 : Bool) (l0_3 : List (S41)) (a0_4 : Int) (a1_0 : ByteArray) (l1_1 : List (S46)) (a1_2 : Bool) (l1_3 : List (S41)) (a1_4 : Int) (a2 : Bool) : Option (Bool) := if a0_0.toList = a1_0.toList then (if (a0_2 != a1_2) = true then (az.j0 QF k a2 true a0_0 l0_1 a0_2 l0_3 a0_4 a1_0 l1_1 a1_2 l1_3 a1_4) else (if (l0_1.length : Int) = (l1_1.length : Int) then (if a2 = true then (none) else (az.j0 QF k a2 false a0_0 l0_1 a0_2 l0_3 a0_4 a1_0 l1_1 a1_2 l1_3 a1_4)) else (az.j0 QF k a2 true a0_0 l0_1 a0_2 l0_3 a0_4 a1_0 l1_1 a1_2 l1_3 a1_4))) else (az.j0 QF k a2 true a0_0 l0_1 a0_2 l0_3 a0_4 a1_0 l1_1 a1_2 l1_3 a1_4)
theorem az.mono_l (QF : Nat → List S41 → List S41 → Bool → Option Bool) (mQF : ∀ x0 x1 x2 k, LeO (QF k x0 x1 x2) (QF (k + 1) x0 x1 x2)) : ∀ k, (∀ y0 y1 y2 y3 y4 y5 y6 y7 y8 y9 y10 y11, LeO (az.j0 QF k y0 y1 y2 y3 y4 y5 y6 y7 y8 y9 y10 y11) (az.j0 QF (k + 1) y0 y1 y2 y3 y4 y5 y6 y7 y8 y9 y10 y11)) ∧ (∀ y0 y1 y2 y3 y4 y5 y6 y7 y8 y9 y10 y11, LeO (az.l0 QF k y0 y1 y2 y3 y4 y5 y6 y7 y8 y9 y10 y11) (az.l0 QF (k + 1) y0 y1 y2 y3 y4 y5 y6 y7 y8 y9 y10 y11))
 | 0 => ⟨fun _ _ _ _ _ _ _ _ _ _ _ _ r h => by simp [az.j0] at h, fun _ _ _ _ _ _ _ _ _ _ _ _ r h => by simp [az.l0] at h⟩
 | k + 1 => by
  obtain ⟨ih0, ih1⟩ := az.mono_l QF mQF k
  refine ⟨?_, ?_⟩
  ·
   intro y0 y1 y2 y3 y4 y5 y6 y7 y8 y9 y10 y11
   unfold az.j0
   repeat' first
   | (with_reducible exact LeO.refl _)
   | exact ih0 _ _ _ _ _ _ _ _ _ _ _ _
   | exact ih1 _ _ _ _ _ _ _ _ _ _ _ _
   | exact mQF _ _ _ _
   | exact LeO.none _
   | refine LeO.ite ?_ ?_
   | refine LeO.bind ?_ (fun _ => ?_)
  ·
   intro y0 y1 y2 y3 y4 y5 y6 y7 y8 y9 y10 y11
   unfold az.l0
   repeat' first
   | (with_reducible exact LeO.refl _)
   | exact ih0 _ _ _ _ _ _ _ _ _ _ _ _
   | exact ih1 _ _ _ _ _ _ _ _ _ _ _ _
   | exact mQF _ _ _ _
   | exact LeO.none _
   | refine LeO.ite ?_ ?_
   | refine LeO.bind ?_ (fun _ => ?_)
theorem az.mono (QF : Nat → List S41 → List S41 → Bool → Option Bool) (mQF : ∀ x0 x1 x2 k, LeO (QF k x0 x1 x2) (QF (k + 1) x0 x1 x2)) : ∀ a0 a1 a2 a3 a4 a5 a6 a7 a8 a9 a10 k, LeO (az.f QF k a0 a1 a2 a3 a4 a5 a6 a7 a8 a9 a10) (az.f QF (k + 1) a0 a1 a2 a3 a4 a5 a6 a7 a8 a9 a10) := by
 intro a0 a1 a2 a3 a4 a5 a6 a7 a8 a9 a10 k
 obtain ⟨ih0, ih1⟩ := az.mono_l QF mQF k
 unfold az.f
 repeat' first
   | (with_reducible exact LeO.refl _)
   | exact ih0 _ _ _ _ _ _ _ _ _ _ _ _
   | exact ih1 _ _ _ _ _ _ _ _ _ _ _ _
   | exact mQF _ _ _ _
   | exact LeO.none _
   | refine LeO.ite ?_ ?_
   | refine LeO.bind ?_ (fun _ => ?_)
def az.T6 : Bool × List (List Nat × List Nat) := (true, [([], []), ([0], [0]), ([], []), ([1, 2], [1, 2]), ([3], [3]), ([], []), ([5], [5]), ([], []), ([6, 7], [6, 7]), ([8], [8]), ([], []), ([], []), ([10, 4, 0, 1, 2, 3, 4, 10, 11], [4, 10]), ([11, 9, 12, 0, 1, 2, 3, 4, 5, 6, 7, 8, 9, 10, 11, 12], [9, 11])])
def az.B6 : List Nat := [0, 1, 0, 7, 15, 0, 32, 0, 224, 480, 0, 0, 3103, 8191]
theorem az.tab6 : rtab .any (opsOf Tryz.f51 6) = az.T6 := by kernel_rfl
theorem az.bits6 : fJ az.T6.2 az.B6 = true := by kernel_rfl
theorem az.calls (QF : Nat → List S41 → List S41 → Bool → Option Bool) (hQF : ∀ (k : Nat) (A0 : Option Addr) (c0 : Nat) (l0 : List (S41)) (A1 : Option Addr) (c1 : Nat) (l1 : List (S41)) (a2 : Bool) (r : Bool) (w : World) (hr0 : Kd.C k41 w A0 l0.length l0) (hc0 : l0.length ≤ c0) (hr1 : Kd.C k41 w A1 l1.length l1) (hc1 : l1.length ≤ c1) (h : QF k l0 l1 a2 = some r), Calls Tryz.prog 36 #[.slice A0 l0.length c0, .slice A1 l1.length c1, .bool a2] w fun e w' => e = .returned (.bool r) ∧ Below w.heap.size w w') (k : Nat) (a0_0 : ByteArray) (A0_1 : Option Addr) (c0_1 : Nat) (l0_1 : List (S46)) (a0_2 : Bool) (A0_3 : Option Addr) (c0_3 : Nat) (l0_3 : List (S41)) (a0_4 : Int) (a1_0 : ByteArray) (A1_1 : Option Addr) (c1_1 : Nat) (l1_1 : List (S46)) (a1_2 : Bool) (A1_3 : Option Addr) (c1_3 : Nat) (l1_3 : List (S41)) (a1_4 : Int) (a2 : Bool) (r : Bool) (w : World) (hr0_1 : Kd.C k46 w A0_1 l0_1.length l0_1) (hc0_1 : l0_1.length ≤ c0_1) (hr0_3 : Kd.C k41 w A0_3 l0_3.length l0_3) (hc0_3 : l0_3.length ≤ c0_3) (hr1_1 : Kd.C k46 w A1_1 l1_1.length l1_1) (hc1_1 : l1_1.length ≤ c1_1) (hr1_3 : Kd.C k41 w A1_3 l1_3.length l1_3) (hc1_3 : l1_3.length ≤ c1_3) (h : az.f QF k a0_0 l0_1 a0_2 l0_3 a0_4 a1_0 l1_1 a1_2 l1_3 a1_4 a2 = some r) :
  Calls Tryz.prog 51 #[.agg #[.string a0_0, .slice A0_1 l0_1.length c0_1, .bool a0_2, .slice A0_3 l0_3.length c0_3, .int .i64 a0_4], .agg #[.string a1_0, .slice A1_1 l1_1.length c1_1, .bool a1_2, .slice A1_3 l1_3.length c1_3, .int .i64 a1_4], .bool a2] w fun e w' => e = .returned (.bool r) ∧ Below w.heap.size w w' := by
 have hu25 := Tryz.underlying25; have hu50 := Tryz.underlying50; have HR0_1 := af.mk hr0_1; have HC0_1 := af.mk hc0_1; clear hr0_1 hc0_1; have HR0_3 := af.mk hr0_3; have HC0_3 := af.mk hc0_3; clear hr0_3 hc0_3; have HR1_1 := af.mk hr1_1; have HC1_1 := af.mk hc1_1; clear hr1_1 hc1_1; have HR1_3 := af.mk hr1_3; have HC1_3 := af.mk hc1_3; clear hr1_3 hc1_3; have HB := af.mk (Below.refl w.heap.size w); have H : (if a0_0.toList = a1_0.toList then (if (a0_2 != a1_2) = true then (az.j0 QF k a2 true a0_0 l0_1 a0_2 l0_3 a0_4 a1_0 l1_1 a1_2 l1_3 a1_4) else (if (l0_1.length : Int) = (l1_1.length : Int) then (if a2 = true then (none) else (az.j0 QF k a2 false a0_0 l0_1 a0_2 l0_3 a0_4 a1_0 l1_1 a1_2 l1_3 a1_4)) else (az.j0 QF k a2 true a0_0 l0_1 a0_2 l0_3 a0_4 a1_0 l1_1 a1_2 l1_3 a1_4))) else (az.j0 QF k a2 true a0_0 l0_1 a0_2 l0_3 a0_4 a1_0 l1_1 a1_2 l1_3 a1_4)) = some r := h; clear h; have HC4 := af.mk H; clear H
 go_enter Tryz.func51, Tryz.ntmps51
 go_upto_region 1 with (first | ((with_reducible refine aA (N := 3) rfl ?_); (try (refine bE (by rfl) ?_; dsimp only)); refine bx_ (N := 3) (cs := #[.string a0_0, .slice A0_1 l0_1.length c0_1, .bool a0_2, .slice A0_3 l0_3.length c0_3, .int .i64 a0_4]) (t := 25) ?_; intro gb101 hg w5 hbox hb; have n0_ := af.mk (ah (bl_ HB.1) hb); have n1_ := af.mk (hbox); have n2_ := af.mk (bz_ (w := w) hg (bl_ HB.1)); have n3_ := af.mk (bz_ (w := w) hg (bl_ HB.1)); clear HB; have HB := n0_; have BK101 := n1_; have GW101 := n2_; have GE101 := n3_; clear n0_ n1_ n2_ n3_; clear hb hbox hg) | ((with_reducible refine aA (N := 4) rfl ?_); (try (refine bE (by rfl) ?_; dsimp only)); refine bx_ (N := 4) (cs := #[.string a1_0, .slice A1_1 l1_1.length c1_1, .bool a1_2, .slice A1_3 l1_3.length c1_3, .int .i64 a1_4]) (t := 25) ?_; intro gb102 hg w6 hbox hb; have n0_ := af.mk (bb_ BK101.1 hb); have n1_ := af.mk (ah (bl1_ HB.1 GE101.1) hb); have n2_ := af.mk (hbox); have n3_ := af.mk (bz_ (w := w) hg (bl1_ HB.1 GE101.1)); have n4_ := af.mk (bz_ (w := w) hg (bl1_ HB.1 GE101.1)); have n5_ := af.mk (nl_ hg BK101.1); have n6_ := af.mk (ng_ hg BK101.1); clear BK101; clear HB; have BK101 := n0_; have HB := n1_; have BK102 := n2_; have GW102 := n3_; have GE102 := n4_; have NB101_102 := n5_; have NB102_101 := n6_; clear n0_ n1_ n2_ n3_ n4_ n5_ n6_; clear hb hbox hg))
 (try simp only [Act.put, List.setIfInBounds_toArray, List.set_cons_zero, List.set_cons_succ])
 go_cut [40] (fun v40 wc => ∃ (kq : Nat) (x40_3 : Bool), v40 = .bool x40_3 ∧ af (az.j0 QF kq a2 x40_3 a0_0 l0_1 a0_2 l0_3 a0_4 a1_0 l1_1 a1_2 l1_3 a1_4 = some r) ∧ af (kq ≤ k) ∧ af (wc.heap[gb101]? = some (.cells #[.string a0_0, (.slice A0_1 l0_1.length c0_1), .bool a0_2, (.slice A0_3 l0_3.length c0_3), .int .i64 a0_4] 25 (0, 0))) ∧ af (wc.heap[gb102]? = some (.cells #[.string a1_0, (.slice A1_1 l1_1.length c1_1), .bool a1_2, (.slice A1_3 l1_3.length c1_3), .int .i64 a1_4] 25 (0, 0))) ∧ af (Below w.heap.size w wc))
 case first =>
  have H := HC4.1; clear HC4; replace H := (sp_ H).symm; obtain ⟨c7, H⟩ | ⟨c7, H⟩ := H
  ·
   have c7b0 := beq_eq_false_iff_ne.mpr c7; have c7b1 := bne_iff_ne.mpr c7
   (first | rw [c7b0] | (simp only [cz, cK]; rw [c7b0]) | skip)
   have H' := af.mk H; clear H; have hnb20 := NB101_102.1; have hnc20 := NB102_101.1; obtain ⟨hcz21_0, hcz21_1, hcz21_2, hcz21_3, hcz21_4, hfz21_0, hfz21_1, hfz21_2, hfz21_3, hfz21_4⟩ := cq5_ BK101.1; obtain ⟨hcz22_0, hcz22_1, hcz22_2, hcz22_3, hcz22_4, hfz22_0, hfz22_1, hfz22_2, hfz22_3, hfz22_4⟩ := cq5_ BK102.1
   go_wp2
   go_meet
   case rel => exact ⟨_, (true), sr_, H', ⟨by first | omega | exact Nat.le_refl _⟩, ⟨bk_ BK101.1⟩, ⟨bk_ BK102.1⟩, ⟨bl2_ HB.1 GE101.1 GE102.1⟩⟩
  have c7b0 := beq_iff_eq.mpr c7; have c7b1 := bne_eq_false_iff_eq.mpr c7; clear c7
  (first | rw [c7b0] | (simp only [cz, cK]; rw [c7b0]) | skip)
  replace H := sp_ H; obtain ⟨c8, H⟩ | ⟨c8, H⟩ := H
  ·
   have c8b0 : (a0_2 != a1_2) = true := c8; (try (have c8b1 : decide (a0_2 = a1_2) = false := by simpa using c8)); (try (have c8b2 : (a0_2 == a1_2) = false := by simpa using c8)); (try (have c8b3 : ¬ (a0_2 = a1_2) := by simpa using c8)); clear c8; have H' := af.mk H; clear H; have hnb9 := NB101_102.1; have hnc9 := NB102_101.1; obtain ⟨hcz10_0, hcz10_1, hcz10_2, hcz10_3, hcz10_4, hfz10_0, hfz10_1, hfz10_2, hfz10_3, hfz10_4⟩ := cq5_ BK101.1; obtain ⟨hcz11_0, hcz11_1, hcz11_2, hcz11_3, hcz11_4, hfz11_0, hfz11_1, hfz11_2, hfz11_3, hfz11_4⟩ := cq5_ BK102.1
   go_wp2
   go_meet
   case rel => exact ⟨_, (true), sr_, H', ⟨by first | omega | exact Nat.le_refl _⟩, ⟨bk_ BK101.1⟩, ⟨bk_ BK102.1⟩, ⟨bl2_ HB.1 GE101.1 GE102.1⟩⟩
  have c8b0 : (a0_2 != a1_2) = false := by simpa using c8
  (try (have c8b1 : decide (a0_2 = a1_2) = true := by simpa using c8)); (try (have c8b2 : (a0_2 == a1_2) = true := by simpa using c8)); clear c8; replace H := (sp_ H).symm; obtain ⟨c12, H⟩ | ⟨c12, H⟩ := H
  ·
   have c12b0 := beq_eq_false_iff_ne.mpr c12; have c12b1 := bne_iff_ne.mpr c12; have c12b2 : (l0_1.length == l1_1.length) = false := by first | simpa using c12 | (simp at c12 ⊢; omega)
   have H' := af.mk H; clear H; have hnb17 := NB101_102.1; have hnc17 := NB102_101.1; obtain ⟨hcz18_0, hcz18_1, hcz18_2, hcz18_3, hcz18_4, hfz18_0, hfz18_1, hfz18_2, hfz18_3, hfz18_4⟩ := cq5_ BK101.1; obtain ⟨hcz19_0, hcz19_1, hcz19_2, hcz19_3, hcz19_4, hfz19_0, hfz19_1, hfz19_2, hfz19_3, hfz19_4⟩ := cq5_ BK102.1
   go_wp2
   go_meet
   case rel => exact ⟨_, (true), sr_, H', ⟨by first | omega | exact Nat.le_refl _⟩, ⟨bk_ BK101.1⟩, ⟨bk_ BK102.1⟩, ⟨bl2_ HB.1 GE101.1 GE102.1⟩⟩
  have c12b0 := beq_iff_eq.mpr c12; have c12b1 := bne_eq_false_iff_eq.mpr c12; have c12b2 : (l0_1.length == l1_1.length) = true := by first | simpa using c12 | (simp at c12 ⊢; omega)
  clear c12; replace H := gf_ H; obtain ⟨rfl, H⟩ := H; have H' := af.mk H; clear H; have hnb14 := NB101_102.1; have hnc14 := NB102_101.1; obtain ⟨hcz15_0, hcz15_1, hcz15_2, hcz15_3, hcz15_4, hfz15_0, hfz15_1, hfz15_2, hfz15_3, hfz15_4⟩ := cq5_ BK101.1; obtain ⟨hcz16_0, hcz16_1, hcz16_2, hcz16_3, hcz16_4, hfz16_0, hfz16_1, hfz16_2, hfz16_3, hfz16_4⟩ := cq5_ BK102.1
  go_wp2
  go_meet
  case rel => exact ⟨_, (false), sr_, H', ⟨by first | omega | exact Nat.le_refl _⟩, ⟨bk_ BK101.1⟩, ⟨bk_ BK102.1⟩, ⟨bl2_ HB.1 GE101.1 GE102.1⟩⟩
 case rest =>
  clear HC4; (try clear c1); obtain ⟨kq, x40_3, rfl, HA, HJ3, BK101, BK102, HB⟩ := hcut
  cases kq with
  | zero => exact absurd HA.1 (by simp [az.j0])
  | succ kj3 =>
   have H := HA.1; clear HA; simp only [az.j0] at H; replace H := sb_ H; obtain ⟨rfl, H⟩ | ⟨rfl, H⟩ := H
   ·
    obtain rfl := Option.some.inj H
    go_wp2
    go_ret
    exact ⟨er_, bl2_ HB.1 GE101.1 GE102.1⟩
   have H' := af.mk H; clear H
   go_wp2
   go_loopg [7] kj3 (fun kq v7 w' => ∃ (x7_2 : Int), v7 = .int .i64 x7_2 ∧ af (az.l0 QF kq a2 x7_2 a0_0 l0_1 a0_2 l0_3 a0_4 a1_0 l1_1 a1_2 l1_3 a1_4 = some r) ∧ af (kq ≤ kj3) ∧ af (w'.heap[gb101]? = some (.cells #[.string a0_0, (.slice A0_1 l0_1.length c0_1), .bool a0_2, (.slice A0_3 l0_3.length c0_3), .int .i64 a0_4] 25 (0, 0))) ∧ af (w'.heap[gb102]? = some (.cells #[.string a1_0, (.slice A1_1 l1_1.length c1_1), .bool a1_2, (.slice A1_3 l1_3.length c1_3), .int .i64 a1_4] 25 (0, 0))) ∧ af (Below w.heap.size w w'))
   case atStart => exact ⟨(0), sr_, H', ⟨Nat.le_refl _⟩, ⟨bk_ BK101.1⟩, ⟨bk_ BK102.1⟩, ⟨bl2_ HB.1 GE101.1 GE102.1⟩⟩
   case round =>
    clear H'; (try clear c1); (try clear c23); obtain ⟨x7_2, rfl, HA, HK2, BK101, BK102, HB⟩ := hrel; obtain _ | k2 := gk
    · exact absurd HA.1 (by simp [az.l0])
    have H := HA.1; clear HA; simp only [az.l0] at H; replace H := (sd_ H).symm; obtain ⟨c24b0, H⟩ | ⟨c24b0, H⟩ := H
    ·
     replace H := bn_ H; obtain ⟨t107, A115, H⟩ := H; (try dsimp only at H); obtain rfl := Option.some.inj H; have hnb116 := NB101_102.1; have hnc116 := NB102_101.1; obtain ⟨hcz117_0, hcz117_1, hcz117_2, hcz117_3, hcz117_4, hfz117_0, hfz117_1, hfz117_2, hfz117_3, hfz117_4⟩ := cq5_ BK101.1; obtain ⟨hcz118_0, hcz118_1, hcz118_2, hcz118_3, hcz118_4, hfz118_0, hfz118_1, hfz118_2, hfz118_3, hfz118_4⟩ := cq5_ BK102.1
     go_wp2_with (first | ((with_reducible refine aj (f := 36) rfl ?_); refine gk_ (some 92) Tryz.func36 (hQF k2 _ _ l0_3 _ _ l1_3 a2 t107 _ ?side1 ?side2 ?side3 ?side4 A115.1) ?_; (case side1 => repeat (first | exact (Kd.di HR0_3.1 HB.1) | (with_reducible refine Kd.dH ?_ _) | (with_reducible refine Kd.dG ?_ _) | (with_reducible refine Kd.fe ?_))); (case side2 => exact HC0_3.1); (case side3 => repeat (first | exact (Kd.di HR1_3.1 HB.1) | (with_reducible refine Kd.dH ?_ _) | (with_reducible refine Kd.dG ?_ _) | (with_reducible refine Kd.fe ?_))); (case side4 => exact HC1_3.1); rintro e w119 ⟨rfl, hb⟩; refine ⟨_, rfl, ?_⟩; refine fu (bb_ BK101.1 hb) (bb_ BK102.1 hb) (ah (bl2_ HB.1 GE101.1 GE102.1) hb) ?_; clear hb BK101 BK102 HB; intro BK101 BK102 HB))
     go_ret
     exact ⟨er_, bl2_ HB.1 GE101.1 GE102.1⟩
    replace H := gd_ H; obtain ⟨c25b0, H⟩ := H; replace H := gd_ H; obtain ⟨c26b0, H⟩ := H; have HH_ := af.mk H; clear H; have hnb31 := NB101_102.1; have hnc31 := NB102_101.1; obtain ⟨hcz32_0, hcz32_1, hcz32_2, hcz32_3, hcz32_4, hfz32_0, hfz32_1, hfz32_2, hfz32_3, hfz32_4⟩ := cq5_ BK101.1
    try go_wp2
    refine fu (bI BK101.1) (bI BK102.1) (bD HB.1) ?_; clear BK101 BK102 HB; intro BK101 BK102 HB; obtain ⟨p103, q103, ad103, e103, hw103_0, hw103_1, hw103_2, hw103_3, hx103_0, hx103_1, hx103_2, hx103_3⟩ := jc HB.1 HR0_1.1 x7_2; cases e103; obtain ⟨p104, q104, ad104, e104, hw104_0, hw104_1, hw104_2, hw104_3, hx104_0, hx104_1, hx104_2, hx104_3⟩ := jc HB.1 HR1_1.1 x7_2; cases e104; refine dX (n := 14) (S := fun w' => w'.cell? ⟨gb101, 0, none⟩ = some (.string a0_0) ∧ w'.cell? ⟨gb101, 1, none⟩ = some (.slice (some ad103) l0_1.length c0_1) ∧ w'.cell? ⟨gb101, 2, none⟩ = some (.bool a0_2) ∧ w'.cell? ⟨gb101, 3, none⟩ = some (.slice A0_3 l0_3.length c0_3) ∧ w'.cell? ⟨gb101, 4, none⟩ = some (.int .i64 a0_4) ∧ w'.cell? ⟨gb102, 0, none⟩ = some (.string a1_0) ∧ w'.cell? ⟨gb102, 1, none⟩ = some (.slice (some ad104) l1_1.length c1_1) ∧ w'.cell? ⟨gb102, 2, none⟩ = some (.bool a1_2) ∧ w'.cell? ⟨gb102, 3, none⟩ = some (.slice A1_3 l1_3.length c1_3) ∧ w'.cell? ⟨gb102, 4, none⟩ = some (.int .i64 a1_4) ∧ w'.cell? (ad103.add ((x7_2).toNat * 4)) = some (.int .i64 ((ag l0_1 x7_2).f0)) ∧ w'.cell? ⟨(ad103.add ((x7_2).toNat * 4)).block, (ad103.add ((x7_2).toNat * 4)).off + 1, none⟩ = some (.string ((ag l0_1 x7_2).f1)) ∧ w'.cell? ⟨(ad103.add ((x7_2).toNat * 4)).block, (ad103.add ((x7_2).toNat * 4)).off + 2, none⟩ = some (.int .i64 ((ag l0_1 x7_2).f2)) ∧ w'.cell? ⟨(ad103.add ((x7_2).toNat * 4)).block, (ad103.add ((x7_2).toNat * 4)).off + 3, none⟩ = some (.int .i64 ((ag l0_1 x7_2).f3)) ∧ w'.cell? (ad104.add ((x7_2).toNat * 4)) = some (.int .i64 ((ag l1_1 x7_2).f0)) ∧ w'.cell? ⟨(ad104.add ((x7_2).toNat * 4)).block, (ad104.add ((x7_2).toNat * 4)).off + 1, none⟩ = some (.string ((ag l1_1 x7_2).f1)) ∧ w'.cell? ⟨(ad104.add ((x7_2).toNat * 4)).block, (ad104.add ((x7_2).toNat * 4)).off + 2, none⟩ = some (.int .i64 ((ag l1_1 x7_2).f2)) ∧ w'.cell? ⟨(ad104.add ((x7_2).toNat * 4)).block, (ad104.add ((x7_2).toNat * 4)).off + 3, none⟩ = some (.int .i64 ((ag l1_1 x7_2).f3))) (ds := []) (bm_ 14 0) (by kernel_rfl) rfl (by kernel_rfl) ⟨ce_ BK101.1 0, ce_ BK101.1 1, ce_ BK101.1 2, ce_ BK101.1 3, ce_ BK101.1 4, ce_ BK102.1 0, ce_ BK102.1 1, ce_ BK102.1 2, ce_ BK102.1 3, ce_ BK102.1 4, (ae HB.1 hw103_0), (ae HB.1 hw103_1), (ae HB.1 hw103_2), (ae HB.1 hw103_3), (ae HB.1 hw104_0), (ae HB.1 hw104_1), (ae HB.1 hw104_2), (ae HB.1 hw104_3)⟩ (fun hHeld => ?_); refine cZ az.tab6 az.bits6 (fun HT_ HW_ => ?_); generalize wr.drew = w33 at BK101 BK102 HB hx103_0 hx103_1 hx103_2 hx103_3 hx104_0 hx104_1 hx104_2 hx104_3 hHeld ⊢; refine pt_ HT_.1 (i := 0) (N := some 48) (bm_ 14 1) ?_; refine pt_ HT_.1 (i := 2) (N := some 50) (bm_ 14 5) ?_; refine pt_ HT_.1 (i := 5) (N := some 53) (bm_ 14 37) ?_; refine pt_ HT_.1 (i := 7) (N := some 55) (bm_ 14 165) ?_; refine tw_ HT_.1 HW_.1 hHeld (i := 1) (N := some 49) (bm_ 14 167) ?_; refine pt_ HT_.1 (i := 3) (N := some 51) (bm_ 14 175) ?_; refine tw_ HT_.1 HW_.1 hHeld (i := 4) (N := some 52) (bm_ 14 191) ?_; refine tw_ HT_.1 HW_.1 hHeld (i := 6) (N := some 54) (bm_ 14 255) ?_; refine pt_ HT_.1 (i := 8) (N := some 56) (bm_ 14 511) ?_; refine tw_ HT_.1 HW_.1 hHeld (i := 9) (N := some 57) (bm_ 14 1023) ?_; refine join_ (σ := Nat × Nat) 2 (bm_ 14 4095) (fun s_ => [(8, .pointer (some ⟨s_.1, 0, none⟩)), (9, .pointer (some ⟨s_.2, 0, none⟩))]) (fun s_ w' => (w'.cell? ⟨gb101, 0, none⟩ = some (.string a0_0) ∧ w'.cell? ⟨gb101, 1, none⟩ = some (.slice (some ad103) l0_1.length c0_1) ∧ w'.cell? ⟨gb101, 2, none⟩ = some (.bool a0_2) ∧ w'.cell? ⟨gb101, 3, none⟩ = some (.slice A0_3 l0_3.length c0_3) ∧ w'.cell? ⟨gb101, 4, none⟩ = some (.int .i64 a0_4) ∧ w'.cell? ⟨gb102, 0, none⟩ = some (.string a1_0) ∧ w'.cell? ⟨gb102, 1, none⟩ = some (.slice (some ad104) l1_1.length c1_1) ∧ w'.cell? ⟨gb102, 2, none⟩ = some (.bool a1_2) ∧ w'.cell? ⟨gb102, 3, none⟩ = some (.slice A1_3 l1_3.length c1_3) ∧ w'.cell? ⟨gb102, 4, none⟩ = some (.int .i64 a1_4) ∧ w'.cell? (ad103.add ((x7_2).toNat * 4)) = some (.int .i64 ((ag l0_1 x7_2).f0)) ∧ w'.cell? ⟨(ad103.add ((x7_2).toNat * 4)).block, (ad103.add ((x7_2).toNat * 4)).off + 1, none⟩ = some (.string ((ag l0_1 x7_2).f1)) ∧ w'.cell? ⟨(ad103.add ((x7_2).toNat * 4)).block, (ad103.add ((x7_2).toNat * 4)).off + 2, none⟩ = some (.int .i64 ((ag l0_1 x7_2).f2)) ∧ w'.cell? ⟨(ad103.add ((x7_2).toNat * 4)).block, (ad103.add ((x7_2).toNat * 4)).off + 3, none⟩ = some (.int .i64 ((ag l0_1 x7_2).f3)) ∧ w'.cell? (ad104.add ((x7_2).toNat * 4)) = some (.int .i64 ((ag l1_1 x7_2).f0)) ∧ w'.cell? ⟨(ad104.add ((x7_2).toNat * 4)).block, (ad104.add ((x7_2).toNat * 4)).off + 1, none⟩ = some (.string ((ag l1_1 x7_2).f1)) ∧ w'.cell? ⟨(ad104.add ((x7_2).toNat * 4)).block, (ad104.add ((x7_2).toNat * 4)).off + 2, none⟩ = some (.int .i64 ((ag l1_1 x7_2).f2)) ∧ w'.cell? ⟨(ad104.add ((x7_2).toNat * 4)).block, (ad104.add ((x7_2).toNat * 4)).off + 3, none⟩ = some (.int .i64 ((ag l1_1 x7_2).f3))) ∧ (w'.heap[gb101]? = some (.cells #[.string a0_0, .slice (some ad103) l0_1.length c0_1, .bool a0_2, .slice A0_3 l0_3.length c0_3, .int .i64 a0_4] 25 (0, 0))) ∧ (w'.heap[gb102]? = some (.cells #[.string a1_0, .slice (some ad104) l1_1.length c1_1, .bool a1_2, .slice A1_3 l1_3.length c1_3, .int .i64 a1_4] 25 (0, 0))) ∧ (w'.heap[s_.1]? = some (.cells #[.int .i64 0, .string (⟨#[]⟩ : ByteArray), .int .i64 0, .int .i64 0] 50 (0, 0))) ∧ (w'.heap[s_.2]? = some (.cells #[.int .i64 0, .string (⟨#[]⟩ : ByteArray), .int .i64 0, .int .i64 0] 50 (0, 0))) ∧ (w.heap.size ≤ s_.1) ∧ (w.heap.size ≤ s_.1) ∧ (gb101 ≠ s_.1) ∧ (s_.1 ≠ gb101) ∧ (gb102 ≠ s_.1) ∧ (s_.1 ≠ gb102) ∧ (s_.2 ≠ s_.1) ∧ (s_.1 ≠ s_.2) ∧ (w.heap.size ≤ s_.2) ∧ (w.heap.size ≤ s_.2) ∧ (gb101 ≠ s_.2) ∧ (s_.2 ≠ gb101) ∧ (gb102 ≠ s_.2) ∧ (s_.2 ≠ gb102) ∧ (Below w.heap.size w w')) ?_ ?_; rotate_left
    ·
     intro hCont; refine two_ (i := 10) (j := 11) (Ni := some 8) (Nj := some 9) (bm_ 14 2047) (bm_ 14 3071) rfl rfl rfl rfl (two_of HT_.1 (by kernel_rfl)) (by decide) (by decide) (fun K hK => ?_) (fun K hK => ?_)
     ·
      skip
      refine bs_ (N := 8) (cs := #[.int .i64 0, .string (⟨#[]⟩ : ByteArray), .int .i64 0, .int .i64 0]) (t := 50) ?_; intro gb105 hg w34 hbox hb; refine jr (bb_ BK101.1 hb) (bb_ BK102.1 hb) (ah (bl2_ HB.1 GE101.1 GE102.1) hb) (hbox) (bz_ (w := w) hg (bl2_ HB.1 GE101.1 GE102.1)) (bz_ (w := w) hg (bl2_ HB.1 GE101.1 GE102.1)) (nl_ hg BK101.1) (ng_ hg BK101.1) (nl_ hg BK102.1) (ng_ hg BK102.1) ?_; clear BK101 BK102 HB; intro BK101 BK102 HB BK105 GW105 GE105 NB101_105 NB105_101 NB102_105 NB105_102; clear hb hbox hg; refine hK.out _ _ ⟨ce_ BK101.1 0, ce_ BK101.1 1, ce_ BK101.1 2, ce_ BK101.1 3, ce_ BK101.1 4, ce_ BK102.1 0, ce_ BK102.1 1, ce_ BK102.1 2, ce_ BK102.1 3, ce_ BK102.1 4, (ae HB.1 hw103_0), (ae HB.1 hw103_1), (ae HB.1 hw103_2), (ae HB.1 hw103_3), (ae HB.1 hw104_0), (ae HB.1 hw104_1), (ae HB.1 hw104_2), (ae HB.1 hw104_3)⟩ (fun hHeld => ?_); clear hK K; refine nm_ (ha := by show Act.put _ (some 8) _ = _; simp only [Act.put, List.setIfInBounds_toArray, List.set_cons_zero, List.set_cons_succ, cz, cK]; rfl) ?_; refine on_ HT_.1 (i := 11) (N := some 9) (bm_ 14 4095) (fun K hK => ?_); refine bs_ (N := 9) (cs := #[.int .i64 0, .string (⟨#[]⟩ : ByteArray), .int .i64 0, .int .i64 0]) (t := 50) ?_; intro gb106 hg w35 hbox hb; refine cut13_ (bb_ BK101.1 hb) (bb_ BK102.1 hb) (bb_ BK105.1 hb) (ah (bl3_ HB.1 GE101.1 GE102.1 GE105.1) hb) (hbox) (bz_ (w := w) hg (bl3_ HB.1 GE101.1 GE102.1 GE105.1)) (bz_ (w := w) hg (bl3_ HB.1 GE101.1 GE102.1 GE105.1)) (nl_ hg BK101.1) (ng_ hg BK101.1) (nl_ hg BK102.1) (ng_ hg BK102.1) (nl_ hg BK105.1) (ng_ hg BK105.1) ?_; clear BK101 BK102 BK105 HB; intro BK101 BK102 BK105 HB BK106 GW106 GE106 NB101_106 NB106_101 NB102_106 NB106_102 NB105_106 NB106_105; clear hb hbox hg; refine hK.out _ _ ⟨ce_ BK101.1 0, ce_ BK101.1 1, ce_ BK101.1 2, ce_ BK101.1 3, ce_ BK101.1 4, ce_ BK102.1 0, ce_ BK102.1 1, ce_ BK102.1 2, ce_ BK102.1 3, ce_ BK102.1 4, (ae HB.1 hw103_0), (ae HB.1 hw103_1), (ae HB.1 hw103_2), (ae HB.1 hw103_3), (ae HB.1 hw104_0), (ae HB.1 hw104_1), (ae HB.1 hw104_2), (ae HB.1 hw104_3)⟩ (fun hHeld => ?_); clear hK K; refine nm_ (ha := by show Act.put _ (some 9) _ = _; simp only [Act.put, List.setIfInBounds_toArray, List.set_cons_zero, List.set_cons_succ, cz, cK]; rfl) ?_; exact norm_ (by simp only [putAll, Act.put, List.setIfInBounds_toArray, List.set_cons_zero, List.set_cons_succ]) (hCont (gb105, gb106) _ ⟨hHeld, (bk_ BK101.1), (bk_ BK102.1), (bk_ BK105.1), (bk_ BK106.1), GW105.1, GE105.1, NB101_105.1, NB105_101.1, NB102_105.1, NB105_102.1, NB106_105.1, NB105_106.1, GW106.1, GE106.1, NB101_106.1, NB106_101.1, NB102_106.1, NB106_102.1, (bl4_ HB.1 GE101.1 GE102.1 GE105.1 GE106.1)⟩)
     skip
     refine bs_ (N := 9) (cs := #[.int .i64 0, .string (⟨#[]⟩ : ByteArray), .int .i64 0, .int .i64 0]) (t := 50) ?_; intro gb106 hg w34 hbox hb; refine jr (bb_ BK101.1 hb) (bb_ BK102.1 hb) (ah (bl2_ HB.1 GE101.1 GE102.1) hb) (hbox) (bz_ (w := w) hg (bl2_ HB.1 GE101.1 GE102.1)) (bz_ (w := w) hg (bl2_ HB.1 GE101.1 GE102.1)) (nl_ hg BK101.1) (ng_ hg BK101.1) (nl_ hg BK102.1) (ng_ hg BK102.1) ?_; clear BK101 BK102 HB; intro BK101 BK102 HB BK106 GW106 GE106 NB101_106 NB106_101 NB102_106 NB106_102; clear hb hbox hg; refine hK.out _ _ ⟨ce_ BK101.1 0, ce_ BK101.1 1, ce_ BK101.1 2, ce_ BK101.1 3, ce_ BK101.1 4, ce_ BK102.1 0, ce_ BK102.1 1, ce_ BK102.1 2, ce_ BK102.1 3, ce_ BK102.1 4, (ae HB.1 hw103_0), (ae HB.1 hw103_1), (ae HB.1 hw103_2), (ae HB.1 hw103_3), (ae HB.1 hw104_0), (ae HB.1 hw104_1), (ae HB.1 hw104_2), (ae HB.1 hw104_3)⟩ (fun hHeld => ?_); clear hK K; refine nm_ (ha := by show Act.put _ (some 9) _ = _; simp only [Act.put, List.setIfInBounds_toArray, List.set_cons_zero, List.set_cons_succ, cz, cK]; rfl) ?_; refine on_ HT_.1 (i := 10) (N := some 8) (bm_ 14 4095) (fun K hK => ?_); refine bs_ (N := 8) (cs := #[.int .i64 0, .string (⟨#[]⟩ : ByteArray), .int .i64 0, .int .i64 0]) (t := 50) ?_; intro gb105 hg w35 hbox hb; refine cut13_ (bb_ BK101.1 hb) (bb_ BK102.1 hb) (bb_ BK106.1 hb) (ah (bl3_ HB.1 GE101.1 GE102.1 GE106.1) hb) (hbox) (bz_ (w := w) hg (bl3_ HB.1 GE101.1 GE102.1 GE106.1)) (bz_ (w := w) hg (bl3_ HB.1 GE101.1 GE102.1 GE106.1)) (nl_ hg BK101.1) (ng_ hg BK101.1) (nl_ hg BK102.1) (ng_ hg BK102.1) (nl_ hg BK106.1) (ng_ hg BK106.1) ?_; clear BK101 BK102 BK106 HB; intro BK101 BK102 BK106 HB BK105 GW105 GE105 NB101_105 NB105_101 NB102_105 NB105_102 NB106_105 NB105_106; clear hb hbox hg; refine hK.out _ _ ⟨ce_ BK101.1 0, ce_ BK101.1 1, ce_ BK101.1 2, ce_ BK101.1 3, ce_ BK101.1 4, ce_ BK102.1 0, ce_ BK102.1 1, ce_ BK102.1 2, ce_ BK102.1 3, ce_ BK102.1 4, (ae HB.1 hw103_0), (ae HB.1 hw103_1), (ae HB.1 hw103_2), (ae HB.1 hw103_3), (ae HB.1 hw104_0), (ae HB.1 hw104_1), (ae HB.1 hw104_2), (ae HB.1 hw104_3)⟩ (fun hHeld => ?_); clear hK K; refine nm_ (ha := by show Act.put _ (some 8) _ = _; simp only [Act.put, List.setIfInBounds_toArray, List.set_cons_zero, List.set_cons_succ, cz, cK]; rfl) ?_; exact norm_ (by simp only [putAll, Act.put, List.setIfInBounds_toArray, List.set_cons_zero, List.set_cons_succ]) (hCont (gb105, gb106) _ ⟨hHeld, (bk_ BK101.1), (bk_ BK102.1), (bk_ BK105.1), (bk_ BK106.1), GW105.1, GE105.1, NB101_105.1, NB105_101.1, NB102_105.1, NB105_102.1, NB106_105.1, NB105_106.1, GW106.1, GE106.1, NB101_106.1, NB106_101.1, NB102_106.1, NB106_102.1, (bl4_ HB.1 GE101.1 GE102.1 GE106.1 GE105.1)⟩)
    rintro ⟨gb105, gb106⟩ w36 ⟨hS_, h0_, h1_, h2_, h3_, h4_, h5_, h6_, h7_, h8_, h9_, h10_, h11_, h12_, h13_, h14_, h15_, h16_, h17_, h18_⟩; have n0_ : af (w36.heap[gb101]? = some (.cells #[.string a0_0, .slice (some ad103) l0_1.length c0_1, .bool a0_2, .slice A0_3 l0_3.length c0_3, .int .i64 a0_4] 25 (0, 0))) := ⟨h0_⟩; have n1_ : af (w36.heap[gb102]? = some (.cells #[.string a1_0, .slice (some ad104) l1_1.length c1_1, .bool a1_2, .slice A1_3 l1_3.length c1_3, .int .i64 a1_4] 25 (0, 0))) := ⟨h1_⟩; have n2_ : af (w36.heap[gb105]? = some (.cells #[.int .i64 0, .string (⟨#[]⟩ : ByteArray), .int .i64 0, .int .i64 0] 50 (0, 0))) := ⟨h2_⟩; have n3_ : af (w36.heap[gb106]? = some (.cells #[.int .i64 0, .string (⟨#[]⟩ : ByteArray), .int .i64 0, .int .i64 0] 50 (0, 0))) := ⟨h3_⟩; have n4_ : af (w.heap.size ≤ gb105) := ⟨h4_⟩; have n5_ : af (w.heap.size ≤ gb105) := ⟨h5_⟩; have n6_ : af (gb101 ≠ gb105) := ⟨h6_⟩; have n7_ : af (gb105 ≠ gb101) := ⟨h7_⟩; have n8_ : af (gb102 ≠ gb105) := ⟨h8_⟩; have n9_ : af (gb105 ≠ gb102) := ⟨h9_⟩; have n10_ : af (gb106 ≠ gb105) := ⟨h10_⟩; have n11_ : af (gb105 ≠ gb106) := ⟨h11_⟩; have n12_ : af (w.heap.size ≤ gb106) := ⟨h12_⟩; have n13_ : af (w.heap.size ≤ gb106) := ⟨h13_⟩; have n14_ : af (gb101 ≠ gb106) := ⟨h14_⟩; have n15_ : af (gb106 ≠ gb101) := ⟨h15_⟩; have n16_ : af (gb102 ≠ gb106) := ⟨h16_⟩; have n17_ : af (gb106 ≠ gb102) := ⟨h17_⟩; have n18_ : af (Below w.heap.size w w36) := ⟨h18_⟩; clear BK101; clear BK102; clear HB; clear h0_ h1_ h2_ h3_ h4_ h5_ h6_ h7_ h8_ h9_ h10_ h11_ h12_ h13_ h14_ h15_ h16_ h17_ h18_; have BK101 := n0_; have BK102 := n1_; have BK105 := n2_; have BK106 := n3_; have GW105 := n4_; have GE105 := n5_; have NB101_105 := n6_; have NB105_101 := n7_; have NB102_105 := n8_; have NB105_102 := n9_; have NB106_105 := n10_; have NB105_106 := n11_; have GW106 := n12_; have GE106 := n13_; have NB101_106 := n14_; have NB106_101 := n15_; have NB102_106 := n16_; have NB106_102 := n17_; have HB := n18_; clear n0_ n1_ n2_ n3_ n4_ n5_ n6_ n7_ n8_ n9_ n10_ n11_ n12_ n13_ n14_ n15_ n16_ n17_ n18_; have hHeld : w36.cell? ⟨gb101, 0, none⟩ = some (.string a0_0) ∧ w36.cell? ⟨gb101, 1, none⟩ = some (.slice (some ad103) l0_1.length c0_1) ∧ w36.cell? ⟨gb101, 2, none⟩ = some (.bool a0_2) ∧ w36.cell? ⟨gb101, 3, none⟩ = some (.slice A0_3 l0_3.length c0_3) ∧ w36.cell? ⟨gb101, 4, none⟩ = some (.int .i64 a0_4) ∧ w36.cell? ⟨gb102, 0, none⟩ = some (.string a1_0) ∧ w36.cell? ⟨gb102, 1, none⟩ = some (.slice (some ad104) l1_1.length c1_1) ∧ w36.cell? ⟨gb102, 2, none⟩ = some (.bool a1_2) ∧ w36.cell? ⟨gb102, 3, none⟩ = some (.slice A1_3 l1_3.length c1_3) ∧ w36.cell? ⟨gb102, 4, none⟩ = some (.int .i64 a1_4) ∧ w36.cell? (ad103.add ((x7_2).toNat * 4)) = some (.int .i64 ((ag l0_1 x7_2).f0)) ∧ w36.cell? ⟨(ad103.add ((x7_2).toNat * 4)).block, (ad103.add ((x7_2).toNat * 4)).off + 1, none⟩ = some (.string ((ag l0_1 x7_2).f1)) ∧ w36.cell? ⟨(ad103.add ((x7_2).toNat * 4)).block, (ad103.add ((x7_2).toNat * 4)).off + 2, none⟩ = some (.int .i64 ((ag l0_1 x7_2).f2)) ∧ w36.cell? ⟨(ad103.add ((x7_2).toNat * 4)).block, (ad103.add ((x7_2).toNat * 4)).off + 3, none⟩ = some (.int .i64 ((ag l0_1 x7_2).f3)) ∧ w36.cell? (ad104.add ((x7_2).toNat * 4)) = some (.int .i64 ((ag l1_1 x7_2).f0)) ∧ w36.cell? ⟨(ad104.add ((x7_2).toNat * 4)).block, (ad104.add ((x7_2).toNat * 4)).off + 1, none⟩ = some (.string ((ag l1_1 x7_2).f1)) ∧ w36.cell? ⟨(ad104.add ((x7_2).toNat * 4)).block, (ad104.add ((x7_2).toNat * 4)).off + 2, none⟩ = some (.int .i64 ((ag l1_1 x7_2).f2)) ∧ w36.cell? ⟨(ad104.add ((x7_2).toNat * 4)).block, (ad104.add ((x7_2).toNat * 4)).off + 3, none⟩ = some (.int .i64 ((ag l1_1 x7_2).f3)) := hS_; refine norm_ (a' := ?_) ?_ ?_; rotate_left
    ·
     simp only [putAll, Act.put, List.setIfInBounds_toArray, List.set_cons_zero, List.set_cons_succ]
     rfl
    refine on_ HT_.1 (i := 12) (N := none) (bm_ 14 8191) (fun K hK => ?_); have hs37 : w36.cell? ⟨gb105, 0, none⟩ = some (.int .i64 0) := (ax BK105.1 0).trans rfl; have hfs37 := aC BK105.1 0; have hns37_0 := NB101_105.1; have hns37_1 := NB102_105.1; have hns37_3 := NB106_105.1; have hms37_0 := NB105_101.1; have hms37_1 := NB105_102.1; have hms37_3 := NB105_106.1; have hs38 : w36.cell? ⟨gb105, 1, none⟩ = some (.string (⟨#[]⟩ : ByteArray)) := (ax BK105.1 1).trans rfl; have hfs38 := aC BK105.1 1; have hns38_0 := NB101_105.1; have hns38_1 := NB102_105.1; have hns38_3 := NB106_105.1; have hms38_0 := NB105_101.1; have hms38_1 := NB105_102.1; have hms38_3 := NB105_106.1; have hs39 : w36.cell? ⟨gb105, 2, none⟩ = some (.int .i64 0) := (ax BK105.1 2).trans rfl; have hfs39 := aC BK105.1 2; have hns39_0 := NB101_105.1; have hns39_1 := NB102_105.1; have hns39_3 := NB106_105.1; have hms39_0 := NB105_101.1; have hms39_1 := NB105_102.1; have hms39_3 := NB105_106.1; have hs40 : w36.cell? ⟨gb105, 3, none⟩ = some (.int .i64 0) := (ax BK105.1 3).trans rfl; have hfs40 := aC BK105.1 3; have hns40_0 := NB101_105.1; have hns40_1 := NB102_105.1; have hns40_3 := NB106_105.1; have hms40_0 := NB105_101.1; have hms40_1 := NB105_102.1; have hms40_3 := NB105_106.1; refine sk_ ?_; refine hK.out _ _ ⟨(cf4_ gb105 NB101_105.1 hHeld.1), (cf4_ gb105 NB101_105.1 hHeld.2.1), (cf4_ gb105 NB101_105.1 hHeld.2.2.1), (cf4_ gb105 NB101_105.1 hHeld.2.2.2.1), (cf4_ gb105 NB101_105.1 hHeld.2.2.2.2.1), (cf4_ gb105 NB102_105.1 hHeld.2.2.2.2.2.1), (cf4_ gb105 NB102_105.1 hHeld.2.2.2.2.2.2.1), (cf4_ gb105 NB102_105.1 hHeld.2.2.2.2.2.2.2.1), (cf4_ gb105 NB102_105.1 hHeld.2.2.2.2.2.2.2.2.1), (cf4_ gb105 NB102_105.1 hHeld.2.2.2.2.2.2.2.2.2.1), (cf4_ gb105 (fr_ hw103_0 GW105.1) hHeld.2.2.2.2.2.2.2.2.2.2.1), (cf4_ gb105 (fr_ hw103_1 GW105.1) hHeld.2.2.2.2.2.2.2.2.2.2.2.1), (cf4_ gb105 (fr_ hw103_2 GW105.1) hHeld.2.2.2.2.2.2.2.2.2.2.2.2.1), (cf4_ gb105 (fr_ hw103_3 GW105.1) hHeld.2.2.2.2.2.2.2.2.2.2.2.2.2.1), (cf4_ gb105 (fr_ hw104_0 GW105.1) hHeld.2.2.2.2.2.2.2.2.2.2.2.2.2.2.1), (cf4_ gb105 (fr_ hw104_1 GW105.1) hHeld.2.2.2.2.2.2.2.2.2.2.2.2.2.2.2.1), (cf4_ gb105 (fr_ hw104_2 GW105.1) hHeld.2.2.2.2.2.2.2.2.2.2.2.2.2.2.2.2.1), (cf4_ gb105 (fr_ hw104_3 GW105.1) hHeld.2.2.2.2.2.2.2.2.2.2.2.2.2.2.2.2.2)⟩ (fun hHeld => ?_); clear hK K; refine on_ HT_.1 (i := 13) (N := none) (bm_ 14 16383) (fun K hK => ?_); have hs41 : w36.cell? ⟨gb106, 0, none⟩ = some (.int .i64 0) := (ax BK106.1 0).trans rfl; have hfs41 := aC BK106.1 0; have hns41_0 := NB101_106.1; have hns41_1 := NB102_106.1; have hns41_2 := NB105_106.1; have hms41_0 := NB106_101.1; have hms41_1 := NB106_102.1; have hms41_2 := NB106_105.1; have hs42 : w36.cell? ⟨gb106, 1, none⟩ = some (.string (⟨#[]⟩ : ByteArray)) := (ax BK106.1 1).trans rfl; have hfs42 := aC BK106.1 1; have hns42_0 := NB101_106.1; have hns42_1 := NB102_106.1; have hns42_2 := NB105_106.1; have hms42_0 := NB106_101.1; have hms42_1 := NB106_102.1; have hms42_2 := NB106_105.1; have hs43 : w36.cell? ⟨gb106, 2, none⟩ = some (.int .i64 0) := (ax BK106.1 2).trans rfl; have hfs43 := aC BK106.1 2; have hns43_0 := NB101_106.1; have hns43_1 := NB102_106.1; have hns43_2 := NB105_106.1; have hms43_0 := NB106_101.1; have hms43_1 := NB106_102.1; have hms43_2 := NB106_105.1; have hs44 : w36.cell? ⟨gb106, 3, none⟩ = some (.int .i64 0) := (ax BK106.1 3).trans rfl; have hfs44 := aC BK106.1 3; have hns44_0 := NB101_106.1; have hns44_1 := NB102_106.1; have hns44_2 := NB105_106.1; have hms44_0 := NB106_101.1; have hms44_1 := NB106_102.1; have hms44_2 := NB106_105.1; refine sk_ ?_; refine hK.out _ _ ⟨(cf4_ gb106 NB101_106.1 hHeld.1), (cf4_ gb106 NB101_106.1 hHeld.2.1), (cf4_ gb106 NB101_106.1 hHeld.2.2.1), (cf4_ gb106 NB101_106.1 hHeld.2.2.2.1), (cf4_ gb106 NB101_106.1 hHeld.2.2.2.2.1), (cf4_ gb106 NB102_106.1 hHeld.2.2.2.2.2.1), (cf4_ gb106 NB102_106.1 hHeld.2.2.2.2.2.2.1), (cf4_ gb106 NB102_106.1 hHeld.2.2.2.2.2.2.2.1), (cf4_ gb106 NB102_106.1 hHeld.2.2.2.2.2.2.2.2.1), (cf4_ gb106 NB102_106.1 hHeld.2.2.2.2.2.2.2.2.2.1), (cf4_ gb106 (fr_ hw103_0 GW106.1) hHeld.2.2.2.2.2.2.2.2.2.2.1), (cf4_ gb106 (fr_ hw103_1 GW106.1) hHeld.2.2.2.2.2.2.2.2.2.2.2.1), (cf4_ gb106 (fr_ hw103_2 GW106.1) hHeld.2.2.2.2.2.2.2.2.2.2.2.2.1), (cf4_ gb106 (fr_ hw103_3 GW106.1) hHeld.2.2.2.2.2.2.2.2.2.2.2.2.2.1), (cf4_ gb106 (fr_ hw104_0 GW106.1) hHeld.2.2.2.2.2.2.2.2.2.2.2.2.2.2.1), (cf4_ gb106 (fr_ hw104_1 GW106.1) hHeld.2.2.2.2.2.2.2.2.2.2.2.2.2.2.2.1), (cf4_ gb106 (fr_ hw104_2 GW106.1) hHeld.2.2.2.2.2.2.2.2.2.2.2.2.2.2.2.2.1), (cf4_ gb106 (fr_ hw104_3 GW106.1) hHeld.2.2.2.2.2.2.2.2.2.2.2.2.2.2.2.2.2)⟩ (fun hHeld => ?_); clear hK K; refine gB (eB HT_.1 (by kernel_rfl)) ?_; have hnb45 := NB105_101.1; have hnc45 := NB101_105.1; have hnb46 := NB105_102.1; have hnc46 := NB102_105.1; have hnb47 := NB105_106.1; have hnc47 := NB106_105.1; obtain ⟨hcz48_0, hcz48_1, hcz48_2, hcz48_3, hfz48_0, hfz48_1, hfz48_2, hfz48_3⟩ := cq4_ BK105.1; have hnb49 := NB106_101.1; have hnc49 := NB101_106.1; have hnb50 := NB106_102.1; have hnc50 := NB102_106.1; obtain ⟨hcz51_0, hcz51_1, hcz51_2, hcz51_3, hfz51_0, hfz51_1, hfz51_2, hfz51_3⟩ := cq4_ BK106.1; have H := HH_.1; clear HH_; replace H := (sp_ H).symm; obtain ⟨c27, H⟩ | ⟨c27, H⟩ := H
    ·
     have c27b0 := beq_eq_false_iff_ne.mpr c27; have c27b1 := bne_iff_ne.mpr c27; obtain rfl := Option.some.inj H
     try go_wp2
     go_ret
     exact ⟨er_, bl4_ HB.1 GE101.1 GE102.1 GE105.1 GE106.1⟩
    have c27b0 := beq_iff_eq.mpr c27; have c27b1 := bne_eq_false_iff_eq.mpr c27; clear c27; replace H := (sp_ H).symm; obtain ⟨c28, H⟩ | ⟨c28, H⟩ := H
    ·
     have c28b0 := beq_eq_false_iff_ne.mpr c28; have c28b1 := bne_iff_ne.mpr c28; obtain rfl := Option.some.inj H
     try go_wp2
     go_ret
     exact ⟨er_, bl4_ HB.1 GE101.1 GE102.1 GE105.1 GE106.1⟩
    have c28b0 := beq_iff_eq.mpr c28; have c28b1 := bne_eq_false_iff_eq.mpr c28; clear c28; replace H := (sp_ H).symm; obtain ⟨c29, H⟩ | ⟨c29, H⟩ := H
    ·
     have c29b0 := beq_eq_false_iff_ne.mpr c29; have c29b1 := bne_iff_ne.mpr c29; obtain rfl := Option.some.inj H
     try go_wp2
     go_ret
     exact ⟨er_, bl4_ HB.1 GE101.1 GE102.1 GE105.1 GE106.1⟩
    have c29b0 := beq_iff_eq.mpr c29; have c29b1 := bne_eq_false_iff_eq.mpr c29; clear c29; replace H := gf_ H; obtain ⟨rfl, H⟩ := H; have H' := af.mk H; clear H
    try go_wp2
    go_roundg k2
    case measure => have := HJ3.1; have := HK2.1; omega
    case rel => exact ⟨(wrap64 (x7_2 + 1)), sr_, H', ⟨by have := HJ3.1; have := HK2.1; omega⟩, ⟨eX (eX (bk_ BK101.1) NB101_105.1) NB101_106.1⟩, ⟨eX (eX (bk_ BK102.1) NB102_105.1) NB102_106.1⟩, ⟨bl4_ HB.1 GE101.1 GE102.1 GE105.1 GE106.1⟩⟩
def aH.l0 (RF : Nat → ByteArray → List S46 → Bool → List S41 → Int → ByteArray → List S46 → Bool → List S41 → Int → Bool → Option Bool) : Nat → List (S41) → List (S41) → Bool → Int → Option (Bool)
 | 0, _, _, _, _ => none
 | k + 1, x0, x1, x2, x7 => if x7 < (x0.length : Int) then (if 0 ≤ x7 then (if x7 < (x1.length : Int) then ((RF k ((au x0 x7).f0) ((au x0 x7).f1) ((au x0 x7).f2) ((au x0 x7).f3) ((au x0 x7).f4) ((au x1 x7).f0) ((au x1 x7).f1) ((au x1 x7).f2) ((au x1 x7).f3) ((au x1 x7).f4) x2).bind fun t103 => (if t103 = true then (aH.l0 RF k x0 x1 x2 (wrap64 (x7 + 1))) else (some false))) else (none)) else (none)) else (some true)
def aH.f (RF : Nat → ByteArray → List S46 → Bool → List S41 → Int → ByteArray → List S46 → Bool → List S41 → Int → Bool → Option Bool) (k : Nat) (l0 : List (S41)) (l1 : List (S41)) (a2 : Bool) : Option (Bool) := if (l0.length : Int) = (l1.length : Int) then (aH.l0 RF k l0 l1 a2 0) else (some false)
theorem aH.mono_l (RF : Nat → ByteArray → List S46 → Bool → List S41 → Int → ByteArray → List S46 → Bool → List S41 → Int → Bool → Option Bool) (mRF : ∀ x0 x1 x2 x3 x4 x5 x6 x7 x8 x9 x10 k, LeO (RF k x0 x1 x2 x3 x4 x5 x6 x7 x8 x9 x10) (RF (k + 1) x0 x1 x2 x3 x4 x5 x6 x7 x8 x9 x10)) : ∀ k, (∀ y0 y1 y2 y3, LeO (aH.l0 RF k y0 y1 y2 y3) (aH.l0 RF (k + 1) y0 y1 y2 y3))
 | 0 => fun _ _ _ _ r h => by simp [aH.l0] at h
 | k + 1 => by
  have ih0 := aH.mono_l RF mRF k
  ·
   intro y0 y1 y2 y3
   unfold aH.l0
   repeat' first
   | (with_reducible exact LeO.refl _)
   | exact ih0 _ _ _ _
   | exact mRF _ _ _ _ _ _ _ _ _ _ _ _
   | exact LeO.none _
   | refine LeO.ite ?_ ?_
   | refine LeO.bind ?_ (fun _ => ?_)
theorem aH.mono (RF : Nat → ByteArray → List S46 → Bool → List S41 → Int → ByteArray → List S46 → Bool → List S41 → Int → Bool → Option Bool) (mRF : ∀ x0 x1 x2 x3 x4 x5 x6 x7 x8 x9 x10 k, LeO (RF k x0 x1 x2 x3 x4 x5 x6 x7 x8 x9 x10) (RF (k + 1) x0 x1 x2 x3 x4 x5 x6 x7 x8 x9 x10)) : ∀ a0 a1 a2 k, LeO (aH.f RF k a0 a1 a2) (aH.f RF (k + 1) a0 a1 a2) := by
 intro a0 a1 a2 k
 have ih0 := aH.mono_l RF mRF k
 unfold aH.f
 repeat' first
   | (with_reducible exact LeO.refl _)
   | exact ih0 _ _ _ _
   | exact mRF _ _ _ _ _ _ _ _ _ _ _ _
   | exact LeO.none _
   | refine LeO.ite ?_ ?_
   | refine LeO.bind ?_ (fun _ => ?_)
def aH.T6 : Bool × List (List Nat × List Nat) := (true, [([], []), ([], []), ([0, 1], [0, 1]), ([2], [2]), ([], []), ([], []), ([4, 5], [4, 5]), ([6], [6]), ([], []), ([3, 7, 8], [3, 7, 8]), ([9], [9])])
def aH.B6 : List Nat := [0, 0, 3, 7, 0, 0, 48, 112, 0, 511, 1023]
theorem aH.tab6 : rtab .any (opsOf Tryz.f36 6) = aH.T6 := by kernel_rfl
theorem aH.bits6 : fJ aH.T6.2 aH.B6 = true := by kernel_rfl
theorem aH.calls (RF : Nat → ByteArray → List S46 → Bool → List S41 → Int → ByteArray → List S46 → Bool → List S41 → Int → Bool → Option Bool) (hRF : ∀ (k : Nat) (a0_0 : ByteArray) (A0_1 : Option Addr) (c0_1 : Nat) (l0_1 : List (S46)) (a0_2 : Bool) (A0_3 : Option Addr) (c0_3 : Nat) (l0_3 : List (S41)) (a0_4 : Int) (a1_0 : ByteArray) (A1_1 : Option Addr) (c1_1 : Nat) (l1_1 : List (S46)) (a1_2 : Bool) (A1_3 : Option Addr) (c1_3 : Nat) (l1_3 : List (S41)) (a1_4 : Int) (a2 : Bool) (r : Bool) (w : World) (hr0_1 : Kd.C k46 w A0_1 l0_1.length l0_1) (hc0_1 : l0_1.length ≤ c0_1) (hr0_3 : Kd.C k41 w A0_3 l0_3.length l0_3) (hc0_3 : l0_3.length ≤ c0_3) (hr1_1 : Kd.C k46 w A1_1 l1_1.length l1_1) (hc1_1 : l1_1.length ≤ c1_1) (hr1_3 : Kd.C k41 w A1_3 l1_3.length l1_3) (hc1_3 : l1_3.length ≤ c1_3) (h : RF k a0_0 l0_1 a0_2 l0_3 a0_4 a1_0 l1_1 a1_2 l1_3 a1_4 a2 = some r), Calls Tryz.prog 51 #[.agg #[.string a0_0, .slice A0_1 l0_1.length c0_1, .bool a0_2, .slice A0_3 l0_3.length c0_3, .int .i64 a0_4], .agg #[.string a1_0, .slice A1_1 l1_1.length c1_1, .bool a1_2, .slice A1_3 l1_3.length c1_3, .int .i64 a1_4], .bool a2] w fun e w' => e = .returned (.bool r) ∧ Below w.heap.size w w') (k : Nat) (A0 : Option Addr) (c0 : Nat) (l0 : List (S41)) (A1 : Option Addr) (c1 : Nat) (l1 : List (S41)) (a2 : Bool) (r : Bool) (w : World) (hr0 : Kd.C k41 w A0 l0.length l0) (hc0 : l0.length ≤ c0) (hr1 : Kd.C k41 w A1 l1.length l1) (hc1 : l1.length ≤ c1) (h : aH.f RF k l0 l1 a2 = some r) :
  Calls Tryz.prog 36 #[.slice A0 l0.length c0, .slice A1 l1.length c1, .bool a2] w fun e w' => e = .returned (.bool r) ∧ Below w.heap.size w w' := by
 have hu25 := Tryz.underlying25; have HR0 := af.mk hr0; have HC0 := af.mk hc0; clear hr0 hc0; have HR1 := af.mk hr1; have HC1 := af.mk hc1; clear hr1 hc1; have HB := af.mk (Below.refl w.heap.size w); have H : (if (l0.length : Int) = (l1.length : Int) then (aH.l0 RF k l0 l1 a2 0) else (some false)) = some r := h; clear h; replace H := (sp_ H).symm; obtain ⟨c4, H⟩ | ⟨c4, H⟩ := H
 ·
  have c4b0 := beq_eq_false_iff_ne.mpr c4; have c4b1 := bne_iff_ne.mpr c4; have c4b2 : (l0.length == l1.length) = false := by first | simpa using c4 | (simp at c4 ⊢; omega)
  obtain rfl := Option.some.inj H
  go_enter Tryz.func36, Tryz.ntmps36
  go_wp2
  go_ret
  exact ⟨er_, bl_ HB.1⟩
 have c4b0 := beq_iff_eq.mpr c4; have c4b1 := bne_eq_false_iff_eq.mpr c4; have c4b2 : (l0.length == l1.length) = true := by first | simpa using c4 | (simp at c4 ⊢; omega)
 clear c4; have H' := af.mk H; clear H
 go_enter Tryz.func36, Tryz.ntmps36
 go_wp2
 go_loopg [7] k (fun kq v7 w' => ∃ (x7_1 : Int), v7 = .int .i64 x7_1 ∧ af (aH.l0 RF kq l0 l1 a2 x7_1 = some r) ∧ af (kq ≤ k) ∧ af (Below w.heap.size w w'))
 case atStart => exact ⟨(0), sr_, H', ⟨Nat.le_refl _⟩, ⟨bl_ HB.1⟩⟩
 case round =>
  clear H'; (try clear c1); (try clear c4); (try clear c4b0); (try clear c4b1); (try clear c4b2); obtain ⟨x7_1, rfl, HA, HK1, HB⟩ := hrel; obtain _ | k1 := gk
  · exact absurd HA.1 (by simp [aH.l0])
  have H := HA.1; clear HA; simp only [aH.l0] at H; replace H := (sd_ H).symm; obtain ⟨c5b0, H⟩ | ⟨c5b0, H⟩ := H
  ·
   obtain rfl := Option.some.inj H
   go_wp2
   go_ret
   exact ⟨er_, bl_ HB.1⟩
  replace H := gd_ H; obtain ⟨c6b0, H⟩ := H; replace H := gd_ H; obtain ⟨c7b0, H⟩ := H; replace H := bn_ H; obtain ⟨t103, A8, H⟩ := H; (try dsimp only at H); replace H := (sb_ H).symm; obtain ⟨rfl, H⟩ | ⟨rfl, H⟩ := H
  ·
   obtain rfl := Option.some.inj H
   try go_wp2
   refine gD (bD HB.1) ?_; clear HB; intro HB; have p101 : 0 ≤ (x7_1 : Int) := dt_; have q101 : x7_1 < (l0.length : Int) := dt_; obtain ⟨ad101, A101_1, c101_1, A101_3, c101_3, e101, hx101_0, hx101_1, hx101_2, hx101_3, hx101_4, hl101_1, hi101_1, hl101_3, hi101_3⟩ := iQ HR0.1 x7_1 p101 q101; have hw101_4 := hx101_4; have hw101_3 := hx101_3; have hw101_2 := hx101_2; have hw101_1 := hx101_1; have hw101_0 := hx101_0; cases e101; replace hx101_0 := ae HB.1 hx101_0; replace hx101_1 := ae HB.1 hx101_1; replace hx101_2 := ae HB.1 hx101_2; replace hx101_3 := ae HB.1 hx101_3; replace hx101_4 := ae HB.1 hx101_4; have HR101_1 := af.mk hi101_1; have HC101_1 := af.mk hl101_1; clear hi101_1 hl101_1; have HR101_3 := af.mk hi101_3; have HC101_3 := af.mk hl101_3; clear hi101_3 hl101_3; replace p101 := eq_true p101; replace q101 := eq_true q101; have p102 : 0 ≤ (x7_1 : Int) := dt_; have q102 : x7_1 < (l1.length : Int) := dt_; obtain ⟨ad102, A102_1, c102_1, A102_3, c102_3, e102, hx102_0, hx102_1, hx102_2, hx102_3, hx102_4, hl102_1, hi102_1, hl102_3, hi102_3⟩ := iQ HR1.1 x7_1 p102 q102; have hw102_4 := hx102_4; have hw102_3 := hx102_3; have hw102_2 := hx102_2; have hw102_1 := hx102_1; have hw102_0 := hx102_0; cases e102; replace hx102_0 := ae HB.1 hx102_0; replace hx102_1 := ae HB.1 hx102_1; replace hx102_2 := ae HB.1 hx102_2; replace hx102_3 := ae HB.1 hx102_3; replace hx102_4 := ae HB.1 hx102_4; have HR102_1 := af.mk hi102_1; have HC102_1 := af.mk hl102_1; clear hi102_1 hl102_1; have HR102_3 := af.mk hi102_3; have HC102_3 := af.mk hl102_3; clear hi102_3 hl102_3; replace p102 := eq_true p102; replace q102 := eq_true q102; refine dX (n := 11) (S := fun w' => w'.cell? (ad101.add ((x7_1).toNat * 5)) = some (.string ((au l0 x7_1).f0)) ∧ w'.cell? ⟨(ad101.add ((x7_1).toNat * 5)).block, (ad101.add ((x7_1).toNat * 5)).off + 1, none⟩ = some (.slice A101_1 ((au l0 x7_1).f1).length c101_1) ∧ w'.cell? ⟨(ad101.add ((x7_1).toNat * 5)).block, (ad101.add ((x7_1).toNat * 5)).off + 2, none⟩ = some (.bool ((au l0 x7_1).f2)) ∧ w'.cell? ⟨(ad101.add ((x7_1).toNat * 5)).block, (ad101.add ((x7_1).toNat * 5)).off + 3, none⟩ = some (.slice A101_3 ((au l0 x7_1).f3).length c101_3) ∧ w'.cell? ⟨(ad101.add ((x7_1).toNat * 5)).block, (ad101.add ((x7_1).toNat * 5)).off + 4, none⟩ = some (.int .i64 ((au l0 x7_1).f4)) ∧ w'.cell? (ad102.add ((x7_1).toNat * 5)) = some (.string ((au l1 x7_1).f0)) ∧ w'.cell? ⟨(ad102.add ((x7_1).toNat * 5)).block, (ad102.add ((x7_1).toNat * 5)).off + 1, none⟩ = some (.slice A102_1 ((au l1 x7_1).f1).length c102_1) ∧ w'.cell? ⟨(ad102.add ((x7_1).toNat * 5)).block, (ad102.add ((x7_1).toNat * 5)).off + 2, none⟩ = some (.bool ((au l1 x7_1).f2)) ∧ w'.cell? ⟨(ad102.add ((x7_1).toNat * 5)).block, (ad102.add ((x7_1).toNat * 5)).off + 3, none⟩ = some (.slice A102_3 ((au l1 x7_1).f3).length c102_3) ∧ w'.cell? ⟨(ad102.add ((x7_1).toNat * 5)).block, (ad102.add ((x7_1).toNat * 5)).off + 4, none⟩ = some (.int .i64 ((au l1 x7_1).f4))) (ds := []) (bm_ 11 0) (by kernel_rfl) rfl (by kernel_rfl) ⟨(ae HB.1 hw101_0), (ae HB.1 hw101_1), (ae HB.1 hw101_2), (ae HB.1 hw101_3), (ae HB.1 hw101_4), (ae HB.1 hw102_0), (ae HB.1 hw102_1), (ae HB.1 hw102_2), (ae HB.1 hw102_3), (ae HB.1 hw102_4)⟩ (fun hHeld => ?_); refine cZ aH.tab6 aH.bits6 (fun HT_ HW_ => ?_); generalize wr.drew = w12 at HB HR101_1 HR101_3 HR102_1 HR102_3 hx101_0 hx101_1 hx101_2 hx101_3 hx101_4 hx102_0 hx102_1 hx102_2 hx102_3 hx102_4 hHeld ⊢; refine pt_ HT_.1 (i := 0) (N := some 19) (bm_ 11 1) ?_; refine pt_ HT_.1 (i := 1) (N := some 20) (bm_ 11 3) ?_; refine pt_ HT_.1 (i := 2) (N := some 21) (bm_ 11 7) ?_; refine pt_ HT_.1 (i := 4) (N := some 23) (bm_ 11 23) ?_; refine pt_ HT_.1 (i := 5) (N := some 24) (bm_ 11 55) ?_; refine pt_ HT_.1 (i := 6) (N := some 25) (bm_ 11 119) ?_; refine pt_ HT_.1 (i := 8) (N := some 27) (bm_ 11 375) ?_; refine tw_ HT_.1 HW_.1 hHeld (i := 3) (N := some 22) (bm_ 11 383) ?_; refine tw_ HT_.1 HW_.1 hHeld (i := 7) (N := some 26) (bm_ 11 511) ?_; refine on_ HT_.1 (i := 9) (N := some 28) (bm_ 11 1023) (fun K hK => ?_); refine kP Tryz.func51 (by kernel_rfl) rfl #[.agg #[.string ((au l0 x7_1).f0), .slice A101_1 ((au l0 x7_1).f1).length c101_1, .bool ((au l0 x7_1).f2), .slice A101_3 ((au l0 x7_1).f3).length c101_3, .int .i64 ((au l0 x7_1).f4)], .agg #[.string ((au l1 x7_1).f0), .slice A102_1 ((au l1 x7_1).f1).length c102_1, .bool ((au l1 x7_1).f2), .slice A102_3 ((au l1 x7_1).f3).length c102_3, .int .i64 ((au l1 x7_1).f4)], .bool a2] (by rfl) rfl rfl ga_ ?_
   with_reducible refine (hRF k1 ((au l0 x7_1).f0) _ _ ((au l0 x7_1).f1) ((au l0 x7_1).f2) _ _ ((au l0 x7_1).f3) ((au l0 x7_1).f4) ((au l1 x7_1).f0) _ _ ((au l1 x7_1).f1) ((au l1 x7_1).f2) _ _ ((au l1 x7_1).f3) ((au l1 x7_1).f4) a2 false _ ?side1 ?side2 ?side3 ?side4 ?side5 ?side6 ?side7 ?side8 A8.1).mono ?_
   (case side1 => repeat (first | exact (Kd.di HR101_1.1 HB.1) | (with_reducible refine Kd.dH ?_ _) | (with_reducible refine Kd.dG ?_ _) | (with_reducible refine Kd.fe ?_)))
   (case side2 => exact HC101_1.1)
   (case side3 => repeat (first | exact (Kd.di HR101_3.1 HB.1) | (with_reducible refine Kd.dH ?_ _) | (with_reducible refine Kd.dG ?_ _) | (with_reducible refine Kd.fe ?_)))
   (case side4 => exact HC101_3.1)
   (case side5 => repeat (first | exact (Kd.di HR102_1.1 HB.1) | (with_reducible refine Kd.dH ?_ _) | (with_reducible refine Kd.dG ?_ _) | (with_reducible refine Kd.fe ?_)))
   (case side6 => exact HC102_1.1)
   (case side7 => repeat (first | exact (Kd.di HR102_3.1 HB.1) | (with_reducible refine Kd.dH ?_ _) | (with_reducible refine Kd.dG ?_ _) | (with_reducible refine Kd.fe ?_)))
   (case side8 => exact HC102_3.1)
   rintro e w13 ⟨rfl, hb⟩; refine ⟨_, rfl, ?_⟩; refine gD (ah (bl_ HB.1) hb) ?_; clear HB; intro HB; (try clear hb); refine hK.out _ _ ⟨(ae HB.1 hw101_0), (ae HB.1 hw101_1), (ae HB.1 hw101_2), (ae HB.1 hw101_3), (ae HB.1 hw101_4), (ae HB.1 hw102_0), (ae HB.1 hw102_1), (ae HB.1 hw102_2), (ae HB.1 hw102_3), (ae HB.1 hw102_4)⟩ (fun hHeld => ?_); clear hK K; refine nm_ ?_; refine pt_ HT_.1 (i := 10) (N := some 29) (bm_ 11 2047) ?_; refine gB (eB HT_.1 (by kernel_rfl)) ?_
   try go_wp2
   go_ret
   exact ⟨er_, bl_ HB.1⟩
  have H' := af.mk H; clear H
  try go_wp2
  refine gD (bD HB.1) ?_; clear HB; intro HB; have p101 : 0 ≤ (x7_1 : Int) := dt_; have q101 : x7_1 < (l0.length : Int) := dt_; obtain ⟨ad101, A101_1, c101_1, A101_3, c101_3, e101, hx101_0, hx101_1, hx101_2, hx101_3, hx101_4, hl101_1, hi101_1, hl101_3, hi101_3⟩ := iQ HR0.1 x7_1 p101 q101; have hw101_4 := hx101_4; have hw101_3 := hx101_3; have hw101_2 := hx101_2; have hw101_1 := hx101_1; have hw101_0 := hx101_0; cases e101; replace hx101_0 := ae HB.1 hx101_0; replace hx101_1 := ae HB.1 hx101_1; replace hx101_2 := ae HB.1 hx101_2; replace hx101_3 := ae HB.1 hx101_3; replace hx101_4 := ae HB.1 hx101_4; have HR101_1 := af.mk hi101_1; have HC101_1 := af.mk hl101_1; clear hi101_1 hl101_1; have HR101_3 := af.mk hi101_3; have HC101_3 := af.mk hl101_3; clear hi101_3 hl101_3; replace p101 := eq_true p101; replace q101 := eq_true q101; have p102 : 0 ≤ (x7_1 : Int) := dt_; have q102 : x7_1 < (l1.length : Int) := dt_; obtain ⟨ad102, A102_1, c102_1, A102_3, c102_3, e102, hx102_0, hx102_1, hx102_2, hx102_3, hx102_4, hl102_1, hi102_1, hl102_3, hi102_3⟩ := iQ HR1.1 x7_1 p102 q102; have hw102_4 := hx102_4; have hw102_3 := hx102_3; have hw102_2 := hx102_2; have hw102_1 := hx102_1; have hw102_0 := hx102_0; cases e102; replace hx102_0 := ae HB.1 hx102_0; replace hx102_1 := ae HB.1 hx102_1; replace hx102_2 := ae HB.1 hx102_2; replace hx102_3 := ae HB.1 hx102_3; replace hx102_4 := ae HB.1 hx102_4; have HR102_1 := af.mk hi102_1; have HC102_1 := af.mk hl102_1; clear hi102_1 hl102_1; have HR102_3 := af.mk hi102_3; have HC102_3 := af.mk hl102_3; clear hi102_3 hl102_3; replace p102 := eq_true p102; replace q102 := eq_true q102; refine dX (n := 11) (S := fun w' => w'.cell? (ad101.add ((x7_1).toNat * 5)) = some (.string ((au l0 x7_1).f0)) ∧ w'.cell? ⟨(ad101.add ((x7_1).toNat * 5)).block, (ad101.add ((x7_1).toNat * 5)).off + 1, none⟩ = some (.slice A101_1 ((au l0 x7_1).f1).length c101_1) ∧ w'.cell? ⟨(ad101.add ((x7_1).toNat * 5)).block, (ad101.add ((x7_1).toNat * 5)).off + 2, none⟩ = some (.bool ((au l0 x7_1).f2)) ∧ w'.cell? ⟨(ad101.add ((x7_1).toNat * 5)).block, (ad101.add ((x7_1).toNat * 5)).off + 3, none⟩ = some (.slice A101_3 ((au l0 x7_1).f3).length c101_3) ∧ w'.cell? ⟨(ad101.add ((x7_1).toNat * 5)).block, (ad101.add ((x7_1).toNat * 5)).off + 4, none⟩ = some (.int .i64 ((au l0 x7_1).f4)) ∧ w'.cell? (ad102.add ((x7_1).toNat * 5)) = some (.string ((au l1 x7_1).f0)) ∧ w'.cell? ⟨(ad102.add ((x7_1).toNat * 5)).block, (ad102.add ((x7_1).toNat * 5)).off + 1, none⟩ = some (.slice A102_1 ((au l1 x7_1).f1).length c102_1) ∧ w'.cell? ⟨(ad102.add ((x7_1).toNat * 5)).block, (ad102.add ((x7_1).toNat * 5)).off + 2, none⟩ = some (.bool ((au l1 x7_1).f2)) ∧ w'.cell? ⟨(ad102.add ((x7_1).toNat * 5)).block, (ad102.add ((x7_1).toNat * 5)).off + 3, none⟩ = some (.slice A102_3 ((au l1 x7_1).f3).length c102_3) ∧ w'.cell? ⟨(ad102.add ((x7_1).toNat * 5)).block, (ad102.add ((x7_1).toNat * 5)).off + 4, none⟩ = some (.int .i64 ((au l1 x7_1).f4))) (ds := []) (bm_ 11 0) (by kernel_rfl) rfl (by kernel_rfl) ⟨(ae HB.1 hw101_0), (ae HB.1 hw101_1), (ae HB.1 hw101_2), (ae HB.1 hw101_3), (ae HB.1 hw101_4), (ae HB.1 hw102_0), (ae HB.1 hw102_1), (ae HB.1 hw102_2), (ae HB.1 hw102_3), (ae HB.1 hw102_4)⟩ (fun hHeld => ?_); refine cZ aH.tab6 aH.bits6 (fun HT_ HW_ => ?_); generalize wr.drew = w10 at HB HR101_1 HR101_3 HR102_1 HR102_3 hx101_0 hx101_1 hx101_2 hx101_3 hx101_4 hx102_0 hx102_1 hx102_2 hx102_3 hx102_4 hHeld ⊢; refine pt_ HT_.1 (i := 0) (N := some 19) (bm_ 11 1) ?_; refine pt_ HT_.1 (i := 1) (N := some 20) (bm_ 11 3) ?_; refine pt_ HT_.1 (i := 2) (N := some 21) (bm_ 11 7) ?_; refine pt_ HT_.1 (i := 4) (N := some 23) (bm_ 11 23) ?_; refine pt_ HT_.1 (i := 5) (N := some 24) (bm_ 11 55) ?_; refine pt_ HT_.1 (i := 6) (N := some 25) (bm_ 11 119) ?_; refine pt_ HT_.1 (i := 8) (N := some 27) (bm_ 11 375) ?_; refine tw_ HT_.1 HW_.1 hHeld (i := 3) (N := some 22) (bm_ 11 383) ?_; refine tw_ HT_.1 HW_.1 hHeld (i := 7) (N := some 26) (bm_ 11 511) ?_; refine on_ HT_.1 (i := 9) (N := some 28) (bm_ 11 1023) (fun K hK => ?_); refine kP Tryz.func51 (by kernel_rfl) rfl #[.agg #[.string ((au l0 x7_1).f0), .slice A101_1 ((au l0 x7_1).f1).length c101_1, .bool ((au l0 x7_1).f2), .slice A101_3 ((au l0 x7_1).f3).length c101_3, .int .i64 ((au l0 x7_1).f4)], .agg #[.string ((au l1 x7_1).f0), .slice A102_1 ((au l1 x7_1).f1).length c102_1, .bool ((au l1 x7_1).f2), .slice A102_3 ((au l1 x7_1).f3).length c102_3, .int .i64 ((au l1 x7_1).f4)], .bool a2] (by rfl) rfl rfl ga_ ?_
  with_reducible refine (hRF k1 ((au l0 x7_1).f0) _ _ ((au l0 x7_1).f1) ((au l0 x7_1).f2) _ _ ((au l0 x7_1).f3) ((au l0 x7_1).f4) ((au l1 x7_1).f0) _ _ ((au l1 x7_1).f1) ((au l1 x7_1).f2) _ _ ((au l1 x7_1).f3) ((au l1 x7_1).f4) a2 true _ ?side1 ?side2 ?side3 ?side4 ?side5 ?side6 ?side7 ?side8 A8.1).mono ?_
  (case side1 => repeat (first | exact (Kd.di HR101_1.1 HB.1) | (with_reducible refine Kd.dH ?_ _) | (with_reducible refine Kd.dG ?_ _) | (with_reducible refine Kd.fe ?_)))
  (case side2 => exact HC101_1.1)
  (case side3 => repeat (first | exact (Kd.di HR101_3.1 HB.1) | (with_reducible refine Kd.dH ?_ _) | (with_reducible refine Kd.dG ?_ _) | (with_reducible refine Kd.fe ?_)))
  (case side4 => exact HC101_3.1)
  (case side5 => repeat (first | exact (Kd.di HR102_1.1 HB.1) | (with_reducible refine Kd.dH ?_ _) | (with_reducible refine Kd.dG ?_ _) | (with_reducible refine Kd.fe ?_)))
  (case side6 => exact HC102_1.1)
  (case side7 => repeat (first | exact (Kd.di HR102_3.1 HB.1) | (with_reducible refine Kd.dH ?_ _) | (with_reducible refine Kd.dG ?_ _) | (with_reducible refine Kd.fe ?_)))
  (case side8 => exact HC102_3.1)
  rintro e w11 ⟨rfl, hb⟩; refine ⟨_, rfl, ?_⟩; refine gD (ah (bl_ HB.1) hb) ?_; clear HB; intro HB; (try clear hb); refine hK.out _ _ ⟨(ae HB.1 hw101_0), (ae HB.1 hw101_1), (ae HB.1 hw101_2), (ae HB.1 hw101_3), (ae HB.1 hw101_4), (ae HB.1 hw102_0), (ae HB.1 hw102_1), (ae HB.1 hw102_2), (ae HB.1 hw102_3), (ae HB.1 hw102_4)⟩ (fun hHeld => ?_); clear hK K; refine nm_ ?_; refine pt_ HT_.1 (i := 10) (N := some 29) (bm_ 11 2047) ?_; refine gB (eB HT_.1 (by kernel_rfl)) ?_
  try go_wp2
  go_roundg k1
  case measure => have := HK1.1; omega
  case rel => exact ⟨(wrap64 (x7_1 + 1)), sr_, H', ⟨om_ HK1.1⟩, ⟨bl_ HB.1⟩⟩
def eqT : Nat → (Nat → List S41 → List S41 → Bool → Option Bool)
  | 0 => fun _ _ _ _ => none
  | d + 1 => fun k a b p => aH.f (fun j x0 x1 x2 x3 x4 x5 x6 x7 x8 x9 x10 => az.f (eqT d) j x0 x1 x2 x3 x4 x5 x6 x7 x8 x9 x10) k a b p
theorem eqT_calls : ∀ (d : Nat) (k : Nat) (A0 : Option Addr) (c0 : Nat) (l0 : List (S41)) (A1 : Option Addr) (c1 : Nat) (l1 : List (S41)) (a2 : Bool) (r : Bool) (w : World) (_ : Kd.C k41 w A0 l0.length l0) (_ : l0.length ≤ c0) (_ : Kd.C k41 w A1 l1.length l1) (_ : l1.length ≤ c1) (_ : eqT d k l0 l1 a2 = some r),
    Calls Tryz.prog 36 #[.slice A0 l0.length c0, .slice A1 l1.length c1, .bool a2] w fun e w' => e = .returned (.bool r) ∧ Below w.heap.size w w' := by
  intro d
  induction d with
  | zero => intro k A0 c0 l0 A1 c1 l1 a2 r w _ _ _ _ h; cases h
  | succ d ih =>
    intro k A0 c0 l0 A1 c1 l1 a2 r w h1 h2 h3 h4 h
    exact aH.calls _ (fun k a0_0 A0_1 c0_1 l0_1 a0_2 A0_3 c0_3 l0_3 a0_4 a1_0 A1_1 c1_1 l1_1 a1_2 A1_3 c1_3 l1_3 a1_4 a2 r w g1 g2 g3 g4 g5 g6 g7 g8 g => az.calls (eqT d) ih k a0_0 A0_1 c0_1 l0_1 a0_2 A0_3 c0_3 l0_3 a0_4 a1_0 A1_1 c1_1 l1_1 a1_2 A1_3 c1_3 l1_3 a1_4 a2 r w g1 g2 g3 g4 g5 g6 g7 g8 g) k A0 c0 l0 A1 c1 l1 a2 r w h1 h2 h3 h4 h
theorem same_le (QF QG : Nat → List S41 → List S41 → Bool → Option Bool) (h : ∀ k a b p, LeO (QF k a b p) (QG k a b p)) : ∀ k, (∀ y0 y1 y2 y3 y4 y5 y6 y7 y8 y9 y10 y11, LeO (az.j0 QF k y0 y1 y2 y3 y4 y5 y6 y7 y8 y9 y10 y11) (az.j0 QG k y0 y1 y2 y3 y4 y5 y6 y7 y8 y9 y10 y11)) ∧ (∀ y0 y1 y2 y3 y4 y5 y6 y7 y8 y9 y10 y11, LeO (az.l0 QF k y0 y1 y2 y3 y4 y5 y6 y7 y8 y9 y10 y11) (az.l0 QG k y0 y1 y2 y3 y4 y5 y6 y7 y8 y9 y10 y11))
  | 0 => ⟨fun _ _ _ _ _ _ _ _ _ _ _ _ r h => by simp [az.j0] at h, fun _ _ _ _ _ _ _ _ _ _ _ _ r h => by simp [az.l0] at h⟩
  | k + 1 => by
    obtain ⟨i0, i1⟩ := same_le QF QG h k
    refine ⟨?_, ?_⟩
    · intro y0 y1 y2 y3 y4 y5 y6 y7 y8 y9 y10 y11
      simp only [az.j0]
      repeat' first
        | exact h _ _ _ _
        | exact i0 _ _ _ _ _ _ _ _ _ _ _ _
        | exact i1 _ _ _ _ _ _ _ _ _ _ _ _
        | exact LeO.refl _
        | exact LeO.none _
        | refine LeO.ite ?_ ?_
        | refine LeO.bind ?_ (fun _ => ?_)
    · intro y0 y1 y2 y3 y4 y5 y6 y7 y8 y9 y10 y11
      simp only [az.l0]
      repeat' first
        | exact h _ _ _ _
        | exact i0 _ _ _ _ _ _ _ _ _ _ _ _
        | exact i1 _ _ _ _ _ _ _ _ _ _ _ _
        | exact LeO.refl _
        | exact LeO.none _
        | refine LeO.ite ?_ ?_
        | refine LeO.bind ?_ (fun _ => ?_)
theorem same_leF (QF QG : Nat → List S41 → List S41 → Bool → Option Bool) (h : ∀ k a b p, LeO (QF k a b p) (QG k a b p)) (k : Nat) (x0 : ByteArray) (x1 : List S46) (x2 : Bool) (x3 : List S41) (x4 : Int) (x5 : ByteArray) (x6 : List S46) (x7 : Bool) (x8 : List S41) (x9 : Int) (x10 : Bool) :
    LeO (az.f QF k x0 x1 x2 x3 x4 x5 x6 x7 x8 x9 x10) (az.f QG k x0 x1 x2 x3 x4 x5 x6 x7 x8 x9 x10) := by
  obtain ⟨i0, i1⟩ := same_le QF QG h k
  unfold az.f
  repeat' first
    | exact i0 _ _ _ _ _ _ _ _ _ _ _ _
    | exact i1 _ _ _ _ _ _ _ _ _ _ _ _
    | exact LeO.refl _
    | exact LeO.none _
    | refine LeO.ite ?_ ?_
    | refine LeO.bind ?_ (fun _ => ?_)
theorem equal_le (RF RG : Nat → ByteArray → List S46 → Bool → List S41 → Int → ByteArray → List S46 → Bool → List S41 → Int → Bool → Option Bool) (h : ∀ k x0 x1 x2 x3 x4 x5 x6 x7 x8 x9 x10, LeO (RF k x0 x1 x2 x3 x4 x5 x6 x7 x8 x9 x10) (RG k x0 x1 x2 x3 x4 x5 x6 x7 x8 x9 x10)) : ∀ k y0 y1 y2 y3, LeO (aH.l0 RF k y0 y1 y2 y3) (aH.l0 RG k y0 y1 y2 y3)
  | 0 => fun _ _ _ _ r h => by simp [aH.l0] at h
  | k + 1 => by
    have ih := equal_le RF RG h k
    intro y0 y1 y2 y3
    simp only [aH.l0]
    repeat' first
      | exact h _ _ _ _ _ _ _ _ _ _ _ _
      | exact ih _ _ _ _
      | exact LeO.refl _
      | exact LeO.none _
      | refine LeO.ite ?_ ?_
      | refine LeO.bind ?_ (fun _ => ?_)
theorem eqT_deep : ∀ (d k : Nat) (a b : List S41) (p : Bool), LeO (eqT d k a b p) (eqT (d + 1) k a b p)
  | 0, k, a, b, p => fun r h => by cases h
  | d + 1, k, a, b, p => by
    have ih := eqT_deep d
    show LeO (aH.f _ k a b p) (aH.f _ k a b p)
    unfold aH.f
    repeat' first
      | exact equal_le _ _ (fun k x0 x1 x2 x3 x4 x5 x6 x7 x8 x9 x10 => same_leF (eqT d) (eqT (d + 1)) (fun k a b p => ih k a b p) k x0 x1 x2 x3 x4 x5 x6 x7 x8 x9 x10) k _ _ _ _
      | exact LeO.refl _
      | exact LeO.none _
      | refine LeO.ite ?_ ?_
theorem eqT_mono : ∀ (d : Nat) (a b : List S41) (p : Bool) (k : Nat), LeO (eqT d k a b p) (eqT d (k + 1) a b p)
  | 0, a, b, p, k => fun r h => by cases h
  | d + 1, a, b, p, k => aH.mono _ (fun x0 x1 x2 x3 x4 x5 x6 x7 x8 x9 x10 k => az.mono (eqT d) (fun x0 x1 x2 k => eqT_mono d x0 x1 x2 k) x0 x1 x2 x3 x4 x5 x6 x7 x8 x9 x10 k) a b p k
def fZ.f (k : Nat) (a b : List S41) (p : Bool) : Option Bool := eqT k k a b p
theorem fZ.mono : ∀ a b p k, LeO (fZ.f k a b p) (fZ.f (k + 1) a b p) := fun a b p k r h => eqT_deep k (k + 1) a b p r (eqT_mono k a b p k r h)
theorem fZ.calls (k : Nat) (A0 : Option Addr) (c0 : Nat) (l0 : List (S41)) (A1 : Option Addr) (c1 : Nat) (l1 : List (S41)) (a2 : Bool) (r : Bool) (w : World) (hr0 : Kd.C k41 w A0 l0.length l0) (hc0 : l0.length ≤ c0) (hr1 : Kd.C k41 w A1 l1.length l1) (hc1 : l1.length ≤ c1) (h : fZ.f k l0 l1 a2 = some r) :
    Calls Tryz.prog 36 #[.slice A0 l0.length c0, .slice A1 l1.length c1, .bool a2] w fun e w' => e = .returned (.bool r) ∧ Below w.heap.size w w' := eqT_calls k k A0 c0 l0 A1 c1 l1 a2 r w hr0 hc0 hr1 hc1 h
def fA.f (k : Nat) (l0 : List (S41)) (l1 : List (S41)) : Option (Bool) := (fZ.f k l0 l1 false).bind fun t360 => (some t360)
theorem fA.calls (k : Nat) (A0 : Option Addr) (c0 : Nat) (l0 : List (S41)) (A1 : Option Addr) (c1 : Nat) (l1 : List (S41)) (r : Bool) (w : World) (hr0 : Kd.C k41 w A0 l0.length l0) (hc0 : l0.length ≤ c0) (hr1 : Kd.C k41 w A1 l1.length l1) (hc1 : l1.length ≤ c1) (h : fA.f k l0 l1 = some r) :
  Calls Tryz.prog 18 #[.slice A0 l0.length c0, .slice A1 l1.length c1] w fun e w' => e = .returned (.bool r) ∧ Below w.heap.size w w' := by
 have HR0 := af.mk hr0; have HC0 := af.mk hc0; clear hr0 hc0; have HR1 := af.mk hr1; have HC1 := af.mk hc1; clear hr1 hc1; have HB := af.mk (Below.refl w.heap.size w); have H : ((fZ.f k l0 l1 false).bind fun t360 => (some t360)) = some r := h; clear h; replace H := bn_ H; obtain ⟨t360, A3, H⟩ := H; (try dsimp only at H); obtain rfl := Option.some.inj H
 go_enter Tryz.func18, Tryz.ntmps18
 go_wp2_with (first | ((with_reducible refine aj (f := 36) rfl ?_); refine gk_ (some 7) Tryz.func36 (fZ.calls k _ _ l0 _ _ l1 false t360 _ ?side1 ?side2 ?side3 ?side4 A3.1) ?_; (case side1 => repeat (first | exact HR0.1 | (with_reducible refine Kd.dH ?_ _) | (with_reducible refine Kd.dG ?_ _) | (with_reducible refine Kd.fe ?_))); (case side2 => exact HC0.1); (case side3 => repeat (first | exact HR1.1 | (with_reducible refine Kd.dH ?_ _) | (with_reducible refine Kd.dG ?_ _) | (with_reducible refine Kd.fe ?_))); (case side4 => exact HC1.1); rintro e w4 ⟨rfl, hb⟩; refine ⟨_, rfl, ?_⟩; refine gD (ah (bl_ HB.1) hb) ?_; clear hb HB; intro HB))
 go_ret
 exact ⟨er_, bl_ HB.1⟩
end Go.Proofs.YtkifdadhojbohaaGreatDoor.Pr
namespace Go.Proofs.YtkifdadhojbohaaGreatDoor.Pu
open Go.RowKit Go.Proofs.YtkifdadhojbohaaGreatDoor Go.Proofs.YtkifdadhojbohaaGreatDoor.Pr Go.Proofs.YtkifdadhojbohaaGreatDoorW.PrintWords Go.Proofs.YtkifdadhojbohaaGreatDoorW.PrintLast Go.Proofs.YtkifdadhojbohaaGreatDoorW.PrintMore
theorem key_iff (s t : S46) : keyT false s = keyT false t ↔ s.f0 = t.f0 ∧ s.f1 = t.f1 ∧ s.f2 = t.f2 := by
  constructor
  · intro h
    obtain ⟨a, b, c, _⟩ := key_f h
    exact ⟨a, b, c⟩
  · rintro ⟨a, b, c⟩
    unfold keyT
    rw [a, b, c]
    rfl
theorem tl_iff (s t : ByteArray) : s.toList = t.toList ↔ s = t := ⟨fun h => ic (by rw [← dx, ← dx, h]), fun h => by rw [h]⟩
theorem lC (P : Prop) : ∃ r : Bool, r = true ↔ P := by
  by_cases h : P
  · exact ⟨true, by simp [h]⟩
  · exact ⟨false, by simp [h]⟩
theorem jk {r : Bool} {P : Prop} (hr : r = true ↔ P) (h : ¬ P) : false = r := (Bool.eq_false_iff.2 fun e => h (hr.1 e)).symm
theorem tok1 (x y : S46) : ∃ r, fB.f x.f0 x.f1 x.f2 x.f3 y.f0 y.f1 y.f2 y.f3 = some r ∧ (r = true ↔ keyT false x = keyT false y) := by
  unfold fB.f
  by_cases h0 : x.f0 = y.f0
  · by_cases h1 : x.f1 = y.f1
    · refine ⟨x.f2 == y.f2, by rw [if_pos h0, if_pos (by rw [h1])], ?_⟩
      rw [key_iff]; simp [h0, h1]
    · refine ⟨false, by rw [if_pos h0, if_neg (fun h => h1 ((tl_iff _ _).1 h))], ?_⟩
      rw [key_iff]; simp [h1]
  · refine ⟨false, by rw [if_neg h0], ?_⟩
    rw [key_iff]; simp [h0]
theorem token_r (a b : List S46) (ha : a.length ≤ 1000000) (r : Bool) (hr : r = true ↔ a.map (keyT false) = b.map (keyT false)) : Ev (fun k => eD.f k a b ()) r := by
  unfold eD.f
  by_cases hl : a.length = b.length
  · have loop : ∀ (xs ys : List S46) (i : Nat), a.drop i = xs → b.drop i = ys → i ≤ a.length → ∀ r : Bool, (r = true ↔ xs.map (keyT false) = ys.map (keyT false)) → Ev (fun k => eD.l0 k b a (a.length : Int) (i : Int)) r := by
      intro xs
      induction xs with
      | nil =>
        intro ys i hx hy hi r hr
        have h1 : a.length ≤ i := List.drop_eq_nil_iff.1 hx
        have h2 : ys = [] := by rw [← hy]; exact List.drop_eq_nil_of_le (by omega)
        subst h2
        refine Ev.succ ?_
        simp only [eD.l0]
        exact Ev.ifn (by omega) (Ev.ret (hr.2 rfl).symm)
      | cons x xs ih =>
        intro ys i hx hy hi r hr
        obtain ⟨a1, a2, a3⟩ := eP hx
        cases ys with
        | nil =>
          have := List.drop_eq_nil_iff.1 hy
          omega
        | cons y ys =>
          obtain ⟨b1, b2, b3⟩ := eP hy
          obtain ⟨t, e1, e2⟩ := tok1 x y
          rw [List.map_cons, List.map_cons, List.cons.injEq] at hr
          refine Ev.succ ?_
          simp only [eD.l0, a2, b2]
          rw [bU i (by omega)]
          refine Ev.ifp (by omega) (Ev.ifp natO (Ev.ifp (by omega) (Ev.ifp (by omega) (Ev.val e1 ?_))))
          by_cases ht : t = true
          · exact Ev.ifp ht (ih ys (i + 1) a3 b3 (by omega) r ⟨fun h => (hr.1 h).2, fun h => hr.2 ⟨e2.1 ht, h⟩⟩)
          · exact Ev.ifn ht (Ev.ret (jk hr fun h => ht (e2.2 h.1)))
    exact Ev.ifp (by omega) (loop a b 0 rfl rfl (by omega) r hr)
  · exact Ev.ifn (by omega) (Ev.ret (jk hr fun h => hl (by simpa using congrArg List.length h)))
theorem same1_r (QF : Nat → List S41 → List S41 → Option Bool) (c d : S41) (hl : c.f1.length ≤ 1000000) (q r : Bool) (hQ : Ev (fun k => QF k c.f3 d.f3) q)
    (hr : r = true ↔ c.f0 = d.f0 ∧ c.f2 = d.f2 ∧ c.f1.map (keyT false) = d.f1.map (keyT false) ∧ q = true) : Ev (fun k => dZ.f QF k c.f0 c.f1 c.f2 c.f3 c.f4 d.f0 d.f1 d.f2 d.f3 d.f4) r := by
  unfold dZ.f
  by_cases h0 : c.f0 = d.f0
  · refine Ev.ifp (by rw [h0]) ?_
    by_cases h2 : c.f2 = d.f2
    · refine Ev.ifp (by simp [h2]) (Ev.bind hQ ?_)
      by_cases hq : q = true
      · exact Ev.ifp hq (Ev.bind (token_r _ _ hl r ⟨fun h => (hr.1 h).2.2.1, fun h => hr.2 ⟨h0, h2, h, hq⟩⟩) (Ev.now _))
      · exact Ev.ifn hq (Ev.ret (jk hr fun h => hq h.2.2.2))
    · exact Ev.ifn (by simpa using h2) (Ev.ret (jk hr fun h => h2 h.2.1))
  · exact Ev.ifn (fun h => h0 ((tl_iff _ _).1 h)) (Ev.ret (jk hr fun h => h0 h.1))
theorem sm_cons (c d : S41) (a b : List S41) (h1 : c.f1.length ≤ 1000000) (h2 : a.length < 1000000) :
    SmL false (c :: a) (d :: b) ↔ (c.f0 = d.f0 ∧ c.f2 = d.f2 ∧ c.f1.map (keyT false) = d.f1.map (keyT false) ∧ SmL false c.f3 d.f3) ∧ SmL false a b := by
  constructor
  · intro h
    cases h with
    | cons _ _ _ _ e0 e2 e1 _ _ _ hk hr => exact ⟨⟨e0, e2, e1, hk⟩, hr⟩
  · rintro ⟨⟨e0, e2, e1, hk⟩, hr⟩
    exact SmL.cons _ _ _ _ e0 e2 e1 (fun h => by cases h) h1 h2 hk hr
theorem clause_r : ∀ a : List S41, szL a ≤ 1000000 → ∃ D, ∀ d, D ≤ d → ∀ (b A B : List S41) (i : Nat), A.drop i = a → B.drop i = b → A.length = B.length → A.length ≤ 1000000 → i ≤ A.length →
    ∀ r : Bool, (r = true ↔ SmL false a b) → Ev (fun k => dn.l0 (smR d) k B A (A.length : Int) (i : Int)) r := by
  refine indL ?_ ?_
  · intro _
    refine ⟨0, fun d _ b A B i hA hB hl hn hi r hr => ?_⟩
    have h1 : A.length ≤ i := List.drop_eq_nil_iff.1 hA
    have h2 : b = [] := by rw [← hB]; exact List.drop_eq_nil_of_le (by omega)
    subst h2
    refine Ev.succ ?_
    simp only [dn.l0]
    exact Ev.ifn (by omega) (Ev.ret (hr.2 SmL.nil).symm)
  · intro c a ihk ihr hs
    rw [szL] at hs
    obtain ⟨D1, g1⟩ := ihk (by omega)
    obtain ⟨D2, g2⟩ := ihr (by omega)
    have hla := je a
    have hlk := je c.f3
    refine ⟨max (D1 + 1) D2, fun e he b A B i hA hB hl hn hi r hr => ?_⟩
    obtain ⟨a1, a2, a3⟩ := kC hA
    cases b with
    | nil =>
      have := List.drop_eq_nil_iff.1 hB
      omega
    | cons d b =>
      obtain ⟨b1, b2, b3⟩ := kC hB
      obtain ⟨e', rfl⟩ : ∃ e', e = e' + 1 := ⟨e - 1, by omega⟩
      rw [sm_cons c d a b (by omega) (by omega)] at hr
      obtain ⟨q, hq⟩ := lC (SmL false c.f3 d.f3)
      rw [← hq] at hr
      obtain ⟨s, hs'⟩ := lC (c.f0 = d.f0 ∧ c.f2 = d.f2 ∧ c.f1.map (keyT false) = d.f1.map (keyT false) ∧ q = true)
      have hQ : Ev (fun k => samT (e' + 1) k c.f3 d.f3) q := by
        simp only [samT, iw.f, eqfS, dn.f]
        refine Ev.bind (a := q) ?_ (Ev.now _)
        by_cases hk : c.f3.length = d.f3.length
        · exact Ev.ifp (by omega) (g1 e' (by omega) d.f3 c.f3 d.f3 0 rfl rfl hk (by omega) (by omega) q hq)
        · exact Ev.ifn (by omega) (Ev.ret (jk hq fun h => hk h.length.1))
      refine Ev.succ ?_
      simp only [dn.l0, a2, b2]
      refine Ev.ifp (by omega) (Ev.ifp natO (Ev.ifp (by omega) (Ev.ifp (by omega) (Ev.bind (same1_r (samT (e' + 1)) c d (by omega) q s hQ hs') ?_))))
      by_cases ht : s = true
      · refine Ev.ifp ht ?_
        rw [bU i (by omega)]
        exact g2 (e' + 1) (by omega) b A B (i + 1) a3 b3 hl hn (by omega) r ⟨fun h => (hr.1 h).2, fun h => hr.2 ⟨hs'.1 ht, h⟩⟩
      · exact Ev.ifn ht (Ev.ret (jk hr fun h => ht (hs'.2 h.1)))
theorem Same_r (a b : List S41) (hs : szL a ≤ 1000000) (r : Bool) (hr : r = true ↔ SmL false a b) : Ev (fun k => pSame.f k a b) r := by
  obtain ⟨D, g⟩ := clause_r a hs
  have hla := je a
  have h0 : Ev (fun k => samT (D + 1) k a b) r := by
    simp only [samT, iw.f, eqfS, dn.f]
    refine Ev.bind (a := r) ?_ (Ev.now _)
    by_cases hk : a.length = b.length
    · exact Ev.ifp (by omega) (g D (by omega) b a b 0 rfl rfl hk (by omega) (by omega) r hr)
    · exact Ev.ifn (by omega) (Ev.ret (jk hr fun h => hk h.length.1))
  obtain ⟨K, hK⟩ := h0
  refine ⟨max K (D + 1), fun k hk => ?_⟩
  have hdeep : ∀ n, samT (D + 1 + n) k a b = some r := by
    intro n
    induction n with
    | zero => exact hK k (by omega)
    | succ n ih => exact samT_deep (D + 1 + n) k a b _ ih
  have := hdeep (k - (D + 1))
  rwa [show D + 1 + (k - (D + 1)) = k by omega] at this
abbrev eqR (d : Nat) : Nat → ByteArray → List S46 → Bool → List S41 → Int → ByteArray → List S46 → Bool → List S41 → Int → Bool → Option Bool := fun j x0 x1 x2 x3 x4 x5 x6 x7 x8 x9 x10 => az.f (eqT d) j x0 x1 x2 x3 x4 x5 x6 x7 x8 x9 x10
theorem atoms_r (QF : Nat → List S41 → List S41 → Bool → Option Bool) (p : Bool) (hp : ¬ p = true) (c d : S41) (hl : c.f1.length ≤ 1000000) (hk : c.f1.length = d.f1.length) (q : Bool) (hQ : Ev (fun k => QF k c.f3 d.f3 p) q) :
    ∀ (xs ys : List S46) (i : Nat), c.f1.drop i = xs → d.f1.drop i = ys → i ≤ c.f1.length → ∀ r : Bool, (r = true ↔ xs.map (keyT false) = ys.map (keyT false) ∧ q = true) →
      Ev (fun k => az.l0 QF k p (i : Int) c.f0 c.f1 c.f2 c.f3 c.f4 d.f0 d.f1 d.f2 d.f3 d.f4) r := by
  intro xs
  induction xs with
  | nil =>
    intro ys i hx hy hi r hr
    have h1 : c.f1.length ≤ i := List.drop_eq_nil_iff.1 hx
    have h2 : ys = [] := by rw [← hy]; exact List.drop_eq_nil_of_le (by omega)
    subst h2
    refine Ev.succ ?_
    simp only [az.l0]
    exact Ev.ifn (by omega) (Ev.bind hQ (Ev.ret (Bool.eq_iff_iff.2 ⟨fun h => hr.2 ⟨rfl, h⟩, fun h => (hr.1 h).2⟩)))
  | cons x xs ih =>
    intro ys i hx hy hi r hr
    obtain ⟨a1, a2, a3⟩ := eP hx
    cases ys with
    | nil =>
      have := List.drop_eq_nil_iff.1 hy
      omega
    | cons y ys =>
      obtain ⟨b1, b2, b3⟩ := eP hy
      rw [List.map_cons, List.map_cons, List.cons.injEq, key_iff] at hr
      refine Ev.succ ?_
      simp only [az.l0, a2, b2]
      rw [bU i (by omega)]
      refine Ev.ifp (by omega) (Ev.ifp natO (Ev.ifp (by omega) ?_))
      by_cases h0 : x.f0 = y.f0
      · refine Ev.ifp h0 ?_
        by_cases h1 : x.f1 = y.f1
        · refine Ev.ifp (by rw [h1]) ?_
          by_cases h2 : x.f2 = y.f2
          · exact Ev.ifp h2 (Ev.ifn hp (ih ys (i + 1) a3 b3 (by omega) r ⟨fun h => ⟨(hr.1 h).1.2, (hr.1 h).2⟩, fun h => hr.2 ⟨⟨⟨h0, h1, h2⟩, h.1⟩, h.2⟩⟩))
          · exact Ev.ifn h2 (Ev.ret (jk hr fun h => h2 h.1.1.2.2))
        · exact Ev.ifn (fun h => h1 ((tl_iff _ _).1 h)) (Ev.ret (jk hr fun h => h1 h.1.1.2.1))
      · exact Ev.ifn h0 (Ev.ret (jk hr fun h => h0 h.1.1.1))
theorem rsame_r (QF : Nat → List S41 → List S41 → Bool → Option Bool) (p : Bool) (hp : ¬ p = true) (c d : S41) (hl : c.f1.length ≤ 1000000) (q r : Bool) (hQ : Ev (fun k => QF k c.f3 d.f3 p) q)
    (hr : r = true ↔ c.f0 = d.f0 ∧ c.f2 = d.f2 ∧ c.f1.map (keyT false) = d.f1.map (keyT false) ∧ q = true) : Ev (fun k => az.f QF k c.f0 c.f1 c.f2 c.f3 c.f4 d.f0 d.f1 d.f2 d.f3 d.f4 p) r := by
  have no : ¬ (c.f0 = d.f0 ∧ c.f2 = d.f2 ∧ c.f1.map (keyT false) = d.f1.map (keyT false) ∧ q = true) → Ev (fun k => az.j0 QF k p true c.f0 c.f1 c.f2 c.f3 c.f4 d.f0 d.f1 d.f2 d.f3 d.f4) r := by
    intro h
    refine Ev.succ ?_
    unfold az.j0
    exact Ev.ifp rfl (Ev.ret (jk hr h))
  unfold az.f
  by_cases h0 : c.f0 = d.f0
  · refine Ev.ifp (by rw [h0]) ?_
    by_cases h2 : c.f2 = d.f2
    · refine Ev.ifn (by simp [h2]) ?_
      by_cases hk : c.f1.length = d.f1.length
      · refine Ev.ifp (by omega) (Ev.ifn hp (Ev.succ ?_))
        unfold az.j0
        exact Ev.ifn (by simp) (atoms_r QF p hp c d hl hk q hQ c.f1 d.f1 0 rfl rfl (by omega) r ⟨fun h => (hr.1 h).2.2, fun h => hr.2 ⟨h0, h2, h⟩⟩)
      · exact Ev.ifn (by omega) (no fun h => hk (by simpa using congrArg List.length h.2.2.1))
    · exact Ev.ifp (by simp [h2]) (no fun h => h2 h.2.1)
  · exact Ev.ifn (fun h => h0 ((tl_iff _ _).1 h)) (no fun h => h0 h.1)
theorem equal_r (p : Bool) (hp : ¬ p = true) : ∀ a : List S41, szL a ≤ 1000000 → ∃ D, ∀ d, D ≤ d → ∀ (b A B : List S41) (i : Nat), A.drop i = a → B.drop i = b → A.length = B.length → A.length ≤ 1000000 → i ≤ A.length →
    ∀ r : Bool, (r = true ↔ SmL false a b) → Ev (fun k => aH.l0 (eqR d) k A B p (i : Int)) r := by
  refine indL ?_ ?_
  · intro _
    refine ⟨0, fun d _ b A B i hA hB hl hn hi r hr => ?_⟩
    have h1 : A.length ≤ i := List.drop_eq_nil_iff.1 hA
    have h2 : b = [] := by rw [← hB]; exact List.drop_eq_nil_of_le (by omega)
    subst h2
    refine Ev.succ ?_
    simp only [aH.l0]
    exact Ev.ifn (by omega) (Ev.ret (hr.2 SmL.nil).symm)
  · intro c a ihk ihr hs
    rw [szL] at hs
    obtain ⟨D1, g1⟩ := ihk (by omega)
    obtain ⟨D2, g2⟩ := ihr (by omega)
    have hla := je a
    have hlk := je c.f3
    refine ⟨max (D1 + 1) D2, fun e he b A B i hA hB hl hn hi r hr => ?_⟩
    obtain ⟨a1, a2, a3⟩ := kC hA
    cases b with
    | nil =>
      have := List.drop_eq_nil_iff.1 hB
      omega
    | cons d b =>
      obtain ⟨b1, b2, b3⟩ := kC hB
      obtain ⟨e', rfl⟩ : ∃ e', e = e' + 1 := ⟨e - 1, by omega⟩
      rw [sm_cons c d a b (by omega) (by omega)] at hr
      obtain ⟨q, hq⟩ := lC (SmL false c.f3 d.f3)
      rw [← hq] at hr
      obtain ⟨s, hs'⟩ := lC (c.f0 = d.f0 ∧ c.f2 = d.f2 ∧ c.f1.map (keyT false) = d.f1.map (keyT false) ∧ q = true)
      have hQ : Ev (fun k => eqT (e' + 1) k c.f3 d.f3 p) q := by
        simp only [eqT, aH.f]
        by_cases hk : c.f3.length = d.f3.length
        · exact Ev.ifp (by omega) (g1 e' (by omega) d.f3 c.f3 d.f3 0 rfl rfl hk (by omega) (by omega) q hq)
        · exact Ev.ifn (by omega) (Ev.ret (jk hq fun h => hk h.length.1))
      refine Ev.succ ?_
      simp only [aH.l0, a2, b2]
      refine Ev.ifp (by omega) (Ev.ifp natO (Ev.ifp (by omega) (Ev.bind (rsame_r (eqT (e' + 1)) p hp c d (by omega) q s hQ hs') ?_)))
      by_cases ht : s = true
      · refine Ev.ifp ht ?_
        rw [bU i (by omega)]
        exact g2 (e' + 1) (by omega) b A B (i + 1) a3 b3 hl hn (by omega) r ⟨fun h => (hr.1 h).2, fun h => hr.2 ⟨hs'.1 ht, h⟩⟩
      · exact Ev.ifn ht (Ev.ret (jk hr fun h => ht (hs'.2 h.1)))
theorem rSame_r (a b : List S41) (hs : szL a ≤ 1000000) (r : Bool) (hr : r = true ↔ SmL false a b) : Ev (fun k => fA.f k a b) r := by
  obtain ⟨D, g⟩ := equal_r false (by simp) a hs
  have hla := je a
  have h0 : Ev (fun k => eqT (D + 1) k a b false) r := by
    simp only [eqT, aH.f]
    by_cases hk : a.length = b.length
    · exact Ev.ifp (by omega) (g D (by omega) b a b 0 rfl rfl hk (by omega) (by omega) r hr)
    · exact Ev.ifn (by omega) (Ev.ret (jk hr fun h => hk h.length.1))
  obtain ⟨K, hK⟩ := h0
  have h1 : Ev (fun k => fZ.f k a b false) r := by
    refine ⟨max K (D + 1), fun k hk => ?_⟩
    have hdeep : ∀ n, eqT (D + 1 + n) k a b false = some r := by
      intro n
      induction n with
      | zero => exact hK k (by omega)
      | succ n ih => exact eqT_deep (D + 1 + n) k a b false _ ih
    have := hdeep (k - (D + 1))
    rwa [show D + 1 + (k - (D + 1)) = k by omega] at this
  unfold fA.f
  exact Ev.bind h1 (Ev.now _)
theorem SmL.trans {p : Bool} {a b : List S41} (h : SmL p a b) : ∀ {z : List S41}, SmL p b z → SmL p a z := by
  induction h with
  | nil => intro z h; exact h
  | cons c d a b h0 h2 h1 h4 hl1 hl2 hk hr ihk ihr =>
    intro z hz
    cases hz with
    | cons _ e _ b' g0 g2 g1 g4 _ _ gk gr =>
      exact SmL.cons c e a b' (h0.trans g0) (h2.trans g2) (h1.trans g1) (fun hp => (h4 hp).trans (g4 hp)) hl1 hl2 (ihk gk) (ihr gr)
end Go.Proofs.YtkifdadhojbohaaGreatDoor.Pu
