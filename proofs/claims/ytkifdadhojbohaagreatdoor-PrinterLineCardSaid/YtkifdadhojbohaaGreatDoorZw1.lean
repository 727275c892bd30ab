/- Joined out of the texts of this proof that bear the names PwA PwB: what each shows stands over it there. -/
import Derived.Test.YtkifdadhojbohaaGreatDoorZc1
import Derived.Test.YtkifdadhojbohaaGreatDoorZe1
set_option linter.unusedVariables false
set_option linter.unusedSimpArgs false
set_option maxHeartbeats 8000000
set_option maxRecDepth 100000
namespace Go.Proofs.YtkifdadhojbohaaGreatDoor.Pu
open Go.RowKit Go.Proofs.YtkifdadhojbohaaGreatDoor Go.Proofs.YtkifdadhojbohaaGreatDoor.Pr Go.Proofs.YtkifdadhojbohaaGreatDoorW.PrintWords Go.Proofs.YtkifdadhojbohaaGreatDoorW.PrintLast Go.Proofs.YtkifdadhojbohaaGreatDoorW.PrintMore
theorem rd_at {T : List S46} {i : Nat} {t : S46} {r : List S46} (h : T.drop i = t :: r) : i < T.length ∧ rd_T46 T (i : Int) = t ∧ T.drop (i + 1) = r := by
  have hi : i < T.length := by
    apply Classical.byContradiction
    intro hn
    rw [List.drop_eq_nil_of_le (by omega)] at h
    cases h
  refine ⟨hi, ?_, ?_⟩
  · have := congrArg (·[0]?) h
    simp only [List.getElem?_drop, Nat.add_zero, List.getElem?_cons_zero] at this
    simp [rd_T46, List.getD_eq_getElem?_getD, this]
  · rw [← List.drop_drop, h]; rfl
def isS (t : S46) (c : UInt8) : Bool := t.f0 == 4 && lst t.f1 == [c]
def isA (t : S46) : Bool := t.f0 != 5 && !isS t 59 && !isS t 123 && !isS t 125
abbrev Ans := Except (Int × Int) (List S41 × List S46)
def push (c : S41) : Ans → Ans
  | .ok p => .ok (c :: p.1, p.2)
  | .error e => .error e
def pre (cs : List S41) : Ans → Ans
  | .ok p => .ok (cs ++ p.1, p.2)
  | .error e => .error e
def stopT (o : Nat) (t : S46) : Bool := if o = 0 then t.f0 == 5 else isS t 125
inductive RL : Nat → List S46 → Ans → Prop
  | stop (o : Nat) (t : S46) (r : List S46) : t.f0 ≠ 1 → stopT o t = true → RL o (t :: r) (.ok ([], t :: r))
  | bad (o : Nat) (t : S46) (r : List S46) : t.f0 ≠ 1 → stopT o t = false → RL o (t :: r) (.error (2, t.f3))
  | semi (o : Nat) (t : S46) (ats : List S46) (u : S46) (r : List S46) (x : Ans) : t.f0 = 1 → (∀ a ∈ ats, isA a = true) → isS u 59 = true → RL o r x → RL o (t :: (ats ++ u :: r)) (push ⟨t.f1, ats, false, [], t.f3⟩ x)
  | syn (o : Nat) (t : S46) (ats : List S46) (u : S46) (r : List S46) : t.f0 = 1 → (∀ a ∈ ats, isA a = true) → isA u = false → isS u 59 = false → isS u 123 = false → RL o (t :: (ats ++ u :: r)) (.error (2, u.f3))
  | lim (t : S46) (ats : List S46) (u : S46) (r : List S46) : t.f0 = 1 → (∀ a ∈ ats, isA a = true) → isS u 123 = true → RL 8 (t :: (ats ++ u :: r)) (.error (6, u.f3))
  | blk (o : Nat) (t : S46) (ats : List S46) (u : S46) (r : List S46) (ks : List S41) (b : S46) (q : List S46) (x : Ans) : o < 8 → t.f0 = 1 → (∀ a ∈ ats, isA a = true) → isS u 123 = true → RL (o + 1) r (.ok (ks, b :: q)) → RL o q x → RL o (t :: (ats ++ u :: r)) (push ⟨t.f1, ats, true, ks, t.f3⟩ x)
  | blkF (o : Nat) (t : S46) (ats : List S46) (u : S46) (r : List S46) (e : Int × Int) : o < 8 → t.f0 = 1 → (∀ a ∈ ats, isA a = true) → isS u 123 = true → RL (o + 1) r (.error e) → RL o (t :: (ats ++ u :: r)) (.error e)
theorem sign_f (t : S46) (c : UInt8) : parser_sign.f t.f0 t.f1 t.f2 t.f3 (⟨#[c]⟩ : ByteArray) = some (isS t c) := by
  unfold parser_sign.f isS
  rw [toList_lst, toList_lst]
  by_cases h : t.f0 = 4
  · rw [if_pos h, h]; rfl
  · rw [if_neg h]; simp [h]
theorem atom_f (t : S46) : parser_atom.f t.f0 t.f1 t.f2 t.f3 = some (isA t) := by
  unfold parser_atom.f isA
  rw [sign_f, sign_f, sign_f]
  by_cases h : t.f0 = 5
  · rw [if_pos h]; simp [h]
  · rw [if_neg h]
    cases h1 : isS t 59 <;> cases h2 : isS t 123 <;> cases h3 : isS t 125 <;> simp [h]
theorem RL.frame {o : Nat} {ts : List S46} {x : Ans} (h : RL o ts x) : ∀ cs r, x = .ok (cs, r) →
    ∃ t r0 p, r = t :: r0 ∧ t.f0 ≠ 1 ∧ stopT o t = true ∧ ts = p ++ r ∧ ∀ r' x', RL o r' x' → RL o (p ++ r') (pre cs x') := by
  induction h with
  | stop o t r h1 h2 =>
    intro cs r' hx
    cases hx
    refine ⟨t, r, [], rfl, h1, h2, rfl, ?_⟩
    intro r' x' hr
    cases x' <;> simpa [pre] using hr
  | bad => intro cs r hx; cases hx
  | semi o t ats u r x h1 h2 h3 hr ih =>
    intro cs q hx
    cases x with
    | error e => cases hx
    | ok p =>
      cases hx
      obtain ⟨t', r0, p', e1, e2, e3, e4, e5⟩ := ih _ _ rfl
      refine ⟨t', r0, t :: (ats ++ u :: p'), e1, e2, e3, ?_, ?_⟩
      · rw [e4]; simp
      · intro r' x' hr'
        have := RL.semi o t ats u (p' ++ r') _ h1 h2 h3 (e5 r' x' hr')
        simp only [List.cons_append, List.append_assoc]
        cases x' <;> simpa [pre, push] using this
  | syn => intro cs r hx; cases hx
  | lim => intro cs r hx; cases hx
  | blk o t ats u r ks b q x ho h1 h2 h3 hk hr ihk ih =>
    intro cs q' hx
    cases x with
    | error e => cases hx
    | ok p =>
      cases hx
      obtain ⟨t', r0, p', e1, e2, e3, e4, e5⟩ := ih _ _ rfl
      obtain ⟨b', q0, pk, f1, f2, f3, f4, f5⟩ := ihk _ _ rfl
      cases f1
      refine ⟨t', r0, t :: (ats ++ u :: (pk ++ b :: p')), e1, e2, e3, ?_, ?_⟩
      · rw [f4, e4]; simp
      · intro r' x' hr'
        have hs := f5 (b :: (p' ++ r')) _ (RL.stop (o + 1) b (p' ++ r') f2 f3)
        have hs' : RL (o + 1) (pk ++ b :: (p' ++ r')) (.ok (ks, b :: (p' ++ r'))) := by simpa [pre] using hs
        have := RL.blk o t ats u _ ks b (p' ++ r') _ ho h1 h2 h3 hs' (e5 r' x' hr')
        simp only [List.cons_append, List.append_assoc]
        cases x' <;> simpa [pre, push] using this
  | blkF => intro cs r hx; cases hx
theorem RL.code {o : Nat} {ts : List S46} {x : Ans} (h : RL o ts x) : ∀ e, x = .error e → e.1 = 2 ∨ e.1 = 6 := by
  induction h with
  | stop => intro e hx; cases hx
  | bad => intro e hx; cases hx; exact .inl rfl
  | semi o t ats u r x h1 h2 h3 hr ih =>
    intro e hx
    cases x with
    | error e' => cases hx; exact ih _ rfl
    | ok p => cases hx
  | syn => intro e hx; cases hx; exact .inl rfl
  | lim => intro e hx; cases hx; exact .inr rfl
  | blk o t ats u r ks b q x ho h1 h2 h3 hk hr ihk ih =>
    intro e hx
    cases x with
    | error e' => cases hx; exact ih _ rfl
    | ok p => cases hx
  | blkF o t ats u r e ho h1 h2 h3 hk ih => intro e' hx; cases hx; exact ih _ rfl
theorem split_atoms (l : List S46) : ∃ ats r, l = ats ++ r ∧ (∀ a ∈ ats, isA a = true) ∧ ∀ u q, r = u :: q → isA u = false := by
  induction l with
  | nil => exact ⟨[], [], rfl, by simp, by simp⟩
  | cons t l ih =>
    cases h : isA t with
    | false => exact ⟨[], t :: l, rfl, by simp, by intro u q e; cases e; exact h⟩
    | true =>
      obtain ⟨ats, r, rfl, h1, h2⟩ := ih
      exact ⟨t :: ats, r, rfl, by simpa using ⟨h, h1⟩, h2⟩
theorem RL.total (z : S46) (hz : z.f0 = 5) : ∀ (n o : Nat) (us : List S46), us.length ≤ n → o ≤ 8 → (∀ u ∈ us, u.f0 ≠ 5) → ∃ x, RL o (us ++ [z]) x ∧ ∀ cs r, x = .ok (cs, r) → ∃ q, r = q ++ [z] ∧ q.length ≤ us.length ∧ (∀ u ∈ q, u.f0 ≠ 5) := by
  have hzA : isA z = false := by simp [isA, hz]
  have hzS : ∀ c, isS z c = false := by intro c; simp [isS, hz]
  intro n
  induction n with
  | zero =>
    intro o us hn ho hu
    obtain rfl : us = [] := List.eq_nil_of_length_eq_zero (by omega)
    cases hs : stopT o z with
    | true => exact ⟨_, RL.stop o z [] (by rw [hz]; decide) hs, by rintro cs r ⟨⟩; exact ⟨[], rfl, by simp, by simp⟩⟩
    | false => exact ⟨_, RL.bad o z [] (by rw [hz]; decide) hs, by rintro cs r ⟨⟩⟩
  | succ n ih =>
    intro o us hn ho hu
    cases us with
    | nil => exact ih o [] (by simp) ho (by simp)
    | cons t l =>
      by_cases ht : t.f0 = 1
      · obtain ⟨ats, r, rfl, h1, h2⟩ := split_atoms l
        cases r with
        | nil =>
          exact ⟨.error (2, z.f3), by simpa using RL.syn o t ats z [] ht h1 hzA (hzS _) (hzS _), by rintro cs r ⟨⟩⟩
        | cons u q =>
          have hq : q.length ≤ n := by simp at hn; omega
          have hu' : ∀ v ∈ q, v.f0 ≠ 5 := fun v hv => hu v (by simp [hv])
          have hAu := h2 u q rfl
          have e : t :: (ats ++ u :: q) ++ [z] = t :: (ats ++ u :: (q ++ [z])) := by simp
          rw [e]
          cases s1 : isS u 59 with
          | true =>
            obtain ⟨x, hx, hr⟩ := ih o q hq ho hu'
            refine ⟨_, RL.semi o t ats u _ x ht h1 s1 hx, ?_⟩
            intro cs r hxx
            cases x with
            | error e => cases hxx
            | ok p =>
              cases hxx
              obtain ⟨q', g1, g2, g3⟩ := hr _ _ rfl
              exact ⟨q', g1, by simp; omega, g3⟩
          | false =>
            cases s2 : isS u 123 with
            | false => exact ⟨_, RL.syn o t ats u _ ht h1 hAu s1 s2, by rintro cs r ⟨⟩⟩
            | true =>
              by_cases h8 : o = 8
              · subst h8; exact ⟨_, RL.lim t ats u _ ht h1 s2, by rintro cs r ⟨⟩⟩
              · have h8' : o < 8 := by omega
                obtain ⟨x, hx, hr⟩ := ih (o + 1) q hq (by omega) hu'
                cases x with
                | error e => exact ⟨_, RL.blkF o t ats u _ e h8' ht h1 s2 hx, by rintro cs r ⟨⟩⟩
                | ok p =>
                  obtain ⟨ks, r⟩ := p
                  obtain ⟨q', g1, g2, g3⟩ := hr _ _ rfl
                  obtain ⟨b, r0, p, f1, f2, f3, f4, _⟩ := hx.frame _ _ rfl
                  cases q' with
                  | nil =>
                    rw [List.nil_append] at g1
                    rw [g1] at f1
                    cases f1
                    simp [stopT, hzS] at f3
                  | cons b' q2 =>
                    subst g1
                    obtain ⟨x2, hx2, hr2⟩ := ih o q2 (by simp at g2; omega) ho (fun v hv => g3 v (by simp [hv]))
                    refine ⟨_, RL.blk o t ats u _ ks b' (q2 ++ [z]) x2 h8' ht h1 s2 hx hx2, ?_⟩
                    intro cs r hxx
                    cases x2 with
                    | error e => cases hxx
                    | ok p =>
                      cases hxx
                      obtain ⟨q3, k1, k2, k3⟩ := hr2 _ _ rfl
                      exact ⟨q3, k1, by simp at g2 ⊢; omega, k3⟩
      · cases hs : stopT o t with
        | true => exact ⟨_, RL.stop o t (l ++ [z]) ht hs, by rintro cs r ⟨⟩; exact ⟨t :: l, rfl, by simp, hu⟩⟩
        | false => exact ⟨_, RL.bad o t (l ++ [z]) ht hs, by rintro cs r ⟨⟩⟩
end Go.Proofs.YtkifdadhojbohaaGreatDoor.Pu
