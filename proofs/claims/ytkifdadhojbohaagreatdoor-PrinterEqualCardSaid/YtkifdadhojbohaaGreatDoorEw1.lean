/- Joined out of the texts of this proof that bear the names PwA PwB: what each shows stands over it there. -/
import Derived.Test.YtkifdadhojbohaaGreatDoorEc1
import Derived.Test.YtkifdadhojbohaaGreatDoorEe1
set_option linter.unusedVariables false
set_option linter.unusedSimpArgs false
set_option maxHeartbeats 8000000
set_option maxRecDepth 100000
namespace Go.Proofs.YtkifdadhojbohaaGreatDoor.Pu
open Go.RowKit Go.Proofs.YtkifdadhojbohaaGreatDoor Go.Proofs.YtkifdadhojbohaaGreatDoor.Pr Go.Proofs.YtkifdadhojbohaaGreatDoorW.PrintWords Go.Proofs.YtkifdadhojbohaaGreatDoorW.PrintLast Go.Proofs.YtkifdadhojbohaaGreatDoorW.PrintMore
theorem eP {T : List S46} {i : Nat} {t : S46} {r : List S46} (h : T.drop i = t :: r) : i < T.length ∧ ag T (i : Int) = t ∧ T.drop (i + 1) = r := by
  have hi : i < T.length := by
    apply Classical.byContradiction
    intro hn
    rw [List.drop_eq_nil_of_le (by omega)] at h
    cases h
  refine ⟨hi, ?_, ?_⟩
  · have := congrArg (·[0]?) h
    simp only [List.getElem?_drop, Nat.add_zero, List.getElem?_cons_zero] at this
    simp [ag, List.getD_eq_getElem?_getD, this]
  · rw [← List.drop_drop, h]; rfl
def isS (t : S46) (c : UInt8) : Bool := t.f0 == 4 && lst t.f1 == [c]
def isA (t : S46) : Bool := t.f0 != 5 && !isS t 59 && !isS t 123 && !isS t 125
abbrev Ans := Except (Int × Int) (List S41 × List S46)
def push (c : S41) : Ans → Ans
  | .ok p => .ok (c :: p.1, p.2)
  | .error e => .error e
def pre (cs : List S41) : Ans → Ans
  | .ok p => .ok (cs ++ p.1, p.2)
  | .error e => .error e
def iI (o : Nat) (t : S46) : Bool := if o = 0 then t.f0 == 5 else isS t 125
inductive RL : Nat → List S46 → Ans → Prop
  | stop (o : Nat) (t : S46) (r : List S46) : t.f0 ≠ 1 → iI o t = true → RL o (t :: r) (.ok ([], t :: r))
  | bad (o : Nat) (t : S46) (r : List S46) : t.f0 ≠ 1 → iI o t = false → RL o (t :: r) (.error (2, t.f3))
  | semi (o : Nat) (t : S46) (ats : List S46) (u : S46) (r : List S46) (x : Ans) : t.f0 = 1 → (∀ a ∈ ats, isA a = true) → isS u 59 = true → RL o r x → RL o (t :: (ats ++ u :: r)) (push ⟨t.f1, ats, false, [], t.f3⟩ x)
  | syn (o : Nat) (t : S46) (ats : List S46) (u : S46) (r : List S46) : t.f0 = 1 → (∀ a ∈ ats, isA a = true) → isA u = false → isS u 59 = false → isS u 123 = false → RL o (t :: (ats ++ u :: r)) (.error (2, u.f3))
  | lim (t : S46) (ats : List S46) (u : S46) (r : List S46) : t.f0 = 1 → (∀ a ∈ ats, isA a = true) → isS u 123 = true → RL 8 (t :: (ats ++ u :: r)) (.error (6, u.f3))
  | blk (o : Nat) (t : S46) (ats : List S46) (u : S46) (r : List S46) (ks : List S41) (b : S46) (q : List S46) (x : Ans) : o < 8 → t.f0 = 1 → (∀ a ∈ ats, isA a = true) → isS u 123 = true → RL (o + 1) r (.ok (ks, b :: q)) → RL o q x → RL o (t :: (ats ++ u :: r)) (push ⟨t.f1, ats, true, ks, t.f3⟩ x)
  | blkF (o : Nat) (t : S46) (ats : List S46) (u : S46) (r : List S46) (e : Int × Int) : o < 8 → t.f0 = 1 → (∀ a ∈ ats, isA a = true) → isS u 123 = true → RL (o + 1) r (.error e) → RL o (t :: (ats ++ u :: r)) (.error e)
theorem isS_ne {t : S46} {c d : UInt8} (h : isS t c = true) (hcd : c ≠ d) : isS t d = false := by
  unfold isS at h ⊢
  simp only [Bool.and_eq_true, beq_iff_eq] at h
  rw [h.2]
  simp [hcd]
theorem isS_f0 {t : S46} {c : UInt8} (h : isS t c = true) : t.f0 = 4 := by
  unfold isS at h
  simp only [Bool.and_eq_true, beq_iff_eq] at h
  exact h.1
theorem iL {t : S46} {c : UInt8} (h : isS t c = true) (hc : c = 59 ∨ c = 123 ∨ c = 125) : isA t = false := by
  unfold isA
  rcases hc with rfl | rfl | rfl <;> simp [h]
theorem jy (t : S46) (c : UInt8) : bP.f t.f0 t.f1 t.f2 t.f3 (⟨#[c]⟩ : ByteArray) = some (isS t c) := by
  unfold bP.f isS
  rw [dx, dx]
  by_cases h : t.f0 = 4
  · rw [if_pos h, h]; rfl
  · rw [if_neg h]; simp [h]
theorem atom_f (t : S46) : dM.f t.f0 t.f1 t.f2 t.f3 = some (isA t) := by
  unfold dM.f isA
  rw [jy, jy, jy]
  by_cases h : t.f0 = 5
  · rw [if_pos h]; simp [h]
  · rw [if_neg h]
    cases h1 : isS t 59 <;> cases h2 : isS t 123 <;> cases h3 : isS t 125 <;> simp [h]
theorem RL.frame {o : Nat} {ts : List S46} {x : Ans} (h : RL o ts x) : ∀ cs r, x = .ok (cs, r) →
    ∃ t r0 p, r = t :: r0 ∧ t.f0 ≠ 1 ∧ iI o t = true ∧ ts = p ++ r ∧ ∀ r' x', RL o r' x' → RL o (p ++ r') (pre cs x') := by
  induction h with
  | stop o t r h1 h2 =>
    intro cs r' hx
    cases hx
    refine ⟨t, r, [], rfl, h1, h2, rfl, ?_⟩
    intro r' x' hr
    cases x' <;> simpa [pre] using hr
  | bad => intro cs r hx; cases hx
  | semi o t ats u r x h1 h2 h3 hr ih =>
    intro cs q hx
    cases x with
    | error e => cases hx
    | ok p =>
      cases hx
      obtain ⟨t', r0, p', e1, e2, e3, e4, e5⟩ := ih _ _ rfl
      refine ⟨t', r0, t :: (ats ++ u :: p'), e1, e2, e3, ?_, ?_⟩
      · rw [e4]; simp
      · intro r' x' hr'
        have := RL.semi o t ats u (p' ++ r') _ h1 h2 h3 (e5 r' x' hr')
        simp only [List.cons_append, List.append_assoc]
        cases x' <;> simpa [pre, push] using this
  | syn => intro cs r hx; cases hx
  | lim => intro cs r hx; cases hx
  | blk o t ats u r ks b q x ho h1 h2 h3 hk hr ihk ih =>
    intro cs q' hx
    cases x with
    | error e => cases hx
    | ok p =>
      cases hx
      obtain ⟨t', r0, p', e1, e2, e3, e4, e5⟩ := ih _ _ rfl
      obtain ⟨b', q0, pk, f1, f2, f3, f4, f5⟩ := ihk _ _ rfl
      cases f1
      refine ⟨t', r0, t :: (ats ++ u :: (pk ++ b :: p')), e1, e2, e3, ?_, ?_⟩
      · rw [f4, e4]; simp
      · intro r' x' hr'
        have hs := f5 (b :: (p' ++ r')) _ (RL.stop (o + 1) b (p' ++ r') f2 f3)
        have hs' : RL (o + 1) (pk ++ b :: (p' ++ r')) (.ok (ks, b :: (p' ++ r'))) := by simpa [pre] using hs
        have := RL.blk o t ats u _ ks b (p' ++ r') _ ho h1 h2 h3 hs' (e5 r' x' hr')
        simp only [List.cons_append, List.append_assoc]
        cases x' <;> simpa [pre, push] using this
  | blkF => intro cs r hx; cases hx
theorem RL.code {o : Nat} {ts : List S46} {x : Ans} (h : RL o ts x) : ∀ e, x = .error e → e.1 = 2 ∨ e.1 = 6 := by
  induction h with
  | stop => intro e hx; cases hx
  | bad => intro e hx; cases hx; exact .inl rfl
  | semi o t ats u r x h1 h2 h3 hr ih =>
    intro e hx
    cases x with
    | error e' => cases hx; exact ih _ rfl
    | ok p => cases hx
  | syn => intro e hx; cases hx; exact .inl rfl
  | lim => intro e hx; cases hx; exact .inr rfl
  | blk o t ats u r ks b q x ho h1 h2 h3 hk hr ihk ih =>
    intro e hx
    cases x with
    | error e' => cases hx; exact ih _ rfl
    | ok p => cases hx
  | blkF o t ats u r e ho h1 h2 h3 hk ih => intro e' hx; cases hx; exact ih _ rfl
theorem split_atoms (l : List S46) : ∃ ats r, l = ats ++ r ∧ (∀ a ∈ ats, isA a = true) ∧ ∀ u q, r = u :: q → isA u = false := by
  induction l with
  | nil => exact ⟨[], [], rfl, by simp, by simp⟩
  | cons t l ih =>
    cases h : isA t with
    | false => exact ⟨[], t :: l, rfl, by simp, by intro u q e; cases e; exact h⟩
    | true =>
      obtain ⟨ats, r, rfl, h1, h2⟩ := ih
      exact ⟨t :: ats, r, rfl, by simpa using ⟨h, h1⟩, h2⟩
theorem RL.total (z : S46) (hz : z.f0 = 5) : ∀ (n o : Nat) (us : List S46), us.length ≤ n → o ≤ 8 → (∀ u ∈ us, u.f0 ≠ 5) → ∃ x, RL o (us ++ [z]) x ∧ ∀ cs r, x = .ok (cs, r) → ∃ q, r = q ++ [z] ∧ q.length ≤ us.length ∧ (∀ u ∈ q, u.f0 ≠ 5) := by
  have hzA : isA z = false := by simp [isA, hz]
  have hzS : ∀ c, isS z c = false := by intro c; simp [isS, hz]
  intro n
  induction n with
  | zero =>
    intro o us hn ho hu
    obtain rfl : us = [] := List.eq_nil_of_length_eq_zero (by omega)
    cases hs : iI o z with
    | true => exact ⟨_, RL.stop o z [] (by rw [hz]; decide) hs, by rintro cs r ⟨⟩; exact ⟨[], rfl, by simp, by simp⟩⟩
    | false => exact ⟨_, RL.bad o z [] (by rw [hz]; decide) hs, by rintro cs r ⟨⟩⟩
  | succ n ih =>
    intro o us hn ho hu
    cases us with
    | nil => exact ih o [] (by simp) ho (by simp)
    | cons t l =>
      by_cases ht : t.f0 = 1
      · obtain ⟨ats, r, rfl, h1, h2⟩ := split_atoms l
        cases r with
        | nil =>
          exact ⟨.error (2, z.f3), by simpa using RL.syn o t ats z [] ht h1 hzA (hzS _) (hzS _), by rintro cs r ⟨⟩⟩
        | cons u q =>
          have hq : q.length ≤ n := by simp at hn; omega
          have hu' : ∀ v ∈ q, v.f0 ≠ 5 := fun v hv => hu v (by simp [hv])
          have hAu := h2 u q rfl
          have e : t :: (ats ++ u :: q) ++ [z] = t :: (ats ++ u :: (q ++ [z])) := by simp
          rw [e]
          cases s1 : isS u 59 with
          | true =>
            obtain ⟨x, hx, hr⟩ := ih o q hq ho hu'
            refine ⟨_, RL.semi o t ats u _ x ht h1 s1 hx, ?_⟩
            intro cs r hxx
            cases x with
            | error e => cases hxx
            | ok p =>
              cases hxx
              obtain ⟨q', g1, g2, g3⟩ := hr _ _ rfl
              exact ⟨q', g1, by simp; omega, g3⟩
          | false =>
            cases s2 : isS u 123 with
            | false => exact ⟨_, RL.syn o t ats u _ ht h1 hAu s1 s2, by rintro cs r ⟨⟩⟩
            | true =>
              by_cases h8 : o = 8
              · subst h8; exact ⟨_, RL.lim t ats u _ ht h1 s2, by rintro cs r ⟨⟩⟩
              · have h8' : o < 8 := by omega
                obtain ⟨x, hx, hr⟩ := ih (o + 1) q hq (by omega) hu'
                cases x with
                | error e => exact ⟨_, RL.blkF o t ats u _ e h8' ht h1 s2 hx, by rintro cs r ⟨⟩⟩
                | ok p =>
                  obtain ⟨ks, r⟩ := p
                  obtain ⟨q', g1, g2, g3⟩ := hr _ _ rfl
                  obtain ⟨b, r0, p, f1, f2, f3, f4, _⟩ := hx.frame _ _ rfl
                  cases q' with
                  | nil =>
                    rw [List.nil_append] at g1
                    rw [g1] at f1
                    cases f1
                    simp [iI, hzS] at f3
                  | cons b' q2 =>
                    subst g1
                    obtain ⟨x2, hx2, hr2⟩ := ih o q2 (by simp at g2; omega) ho (fun v hv => g3 v (by simp [hv]))
                    refine ⟨_, RL.blk o t ats u _ ks b' (q2 ++ [z]) x2 h8' ht h1 s2 hx hx2, ?_⟩
                    intro cs r hxx
                    cases x2 with
                    | error e => cases hxx
                    | ok p =>
                      cases hxx
                      obtain ⟨q3, k1, k2, k3⟩ := hr2 _ _ rfl
                      exact ⟨q3, k1, by simp at g2 ⊢; omega, k3⟩
      · cases hs : iI o t with
        | true => exact ⟨_, RL.stop o t (l ++ [z]) ht hs, by rintro cs r ⟨⟩; exact ⟨t :: l, rfl, by simp, hu⟩⟩
        | false => exact ⟨_, RL.bad o t (l ++ [z]) ht hs, by rintro cs r ⟨⟩⟩
abbrev EFT := Nat → List S46 → Int → Int → Int → Int → Option (List S41 × Int × Int × Int)
theorem iX {T : List S46} {i : Nat} {ats r : List S46} (h : T.drop i = ats ++ r) : T.drop (i + ats.length) = r := by
  rw [← List.drop_drop, h, List.drop_left]
theorem int_lt {a b : Nat} (h : a < b) : (a : Int) < (b : Int) := by omega
theorem fail_at (L : List S46) (j : Nat) (u : S46) (r : List S46) (h : L.drop j = u :: r) (e : Int) : bB.f L (j : Int) 0 0 e = some ((j : Int), e, u.f3) := by
  obtain ⟨h1, h2, h3⟩ := eP h
  unfold bB.f
  rw [if_pos rfl, if_pos natO, if_pos (int_lt h1), h2]
theorem entry_atoms (EF : EFT) (L : List S46) (hL : L.length ≤ 900000) (x1 : Int) (w : ByteArray) (bl : Bool) (at_ : Int) (y : ByteArray × List S46 × Bool × List S41 × Int × Int × Int × Int) :
    ∀ (ats : List S46) (j : Nat) (acc : List S46) (u : S46) (r : List S46), L.drop j = ats ++ u :: r → (∀ a ∈ ats, isA a = true) → acc.length ≤ j →
      Ev (fun k => ai.l0 EF k x1 L ((j + ats.length : Nat) : Int) 0 0 w (acc ++ ats) bl at_) y → Ev (fun k => ai.l0 EF k x1 L (j : Int) 0 0 w acc bl at_) y := by
  intro ats
  induction ats with
  | nil => intro j acc u r h1 h2 h3 h; simpa using h
  | cons a ats ih =>
    intro j acc u r h1 h2 h3 h
    obtain ⟨g1, g2, g3⟩ := eP h1
    refine Ev.succ ?_
    simp only [ai.l0, g2, atom_f, h2 a (by simp)]
    refine Ev.ifp natO (Ev.ifp (int_lt g1) (Ev.val rfl (Ev.ifp rfl (Ev.ifp (by omega) ?_))))
    rw [bU j (by omega)]
    refine ih (j + 1) (acc ++ [a]) u r g3 (fun x hx => h2 x (by simp [hx])) (by simp; omega) ?_
    have e1 : j + 1 + ats.length = j + (a :: ats).length := by simp; omega
    have e2 : acc ++ [a] ++ ats = acc ++ a :: ats := by simp
    rw [e1, e2]
    exact h
theorem jM (EF : EFT) (L : List S46) (hL : L.length ≤ 900000) (o : Int) (i : Nat) (t : S46) (ats : List S46) (u : S46) (r : List S46) (h1 : L.drop i = t :: (ats ++ u :: r)) (h2 : ∀ a ∈ ats, isA a = true)
    (y : ByteArray × List S46 × Bool × List S41 × Int × Int × Int × Int)
    (h : Ev (fun k => ai.l0 EF k o L ((i + 1 + ats.length : Nat) : Int) 0 0 t.f1 ats false t.f3) y) : Ev (fun k => ai.f EF k L (i : Int) 0 0 o) y := by
  obtain ⟨g1, g2, g3⟩ := eP h1
  simp only [ai.f, g2]
  refine Ev.ifp natO (Ev.ifp (int_lt g1) ?_)
  rw [bU i (by omega)]
  refine entry_atoms EF L hL o t.f1 false t.f3 y ats (i + 1) [] u r g3 h2 (by simp) ?_
  simpa using h
theorem entry_semi (EF : EFT) (L : List S46) (hL : L.length ≤ 900000) (o : Int) (i : Nat) (t : S46) (ats : List S46) (u : S46) (r : List S46) (h1 : L.drop i = t :: (ats ++ u :: r)) (h2 : ∀ a ∈ ats, isA a = true) (h3 : isS u 59 = true) :
    Ev (fun k => ai.f EF k L (i : Int) 0 0 o) (t.f1, ats, false, [], t.f3, ((i + ats.length + 2 : Nat) : Int), 0, 0) := by
  refine jM EF L hL o i t ats u r h1 h2 _ ?_
  obtain ⟨g1, g2, g3⟩ := eP (iX (eP h1).2.2)
  refine Ev.succ ?_
  simp only [ai.l0, g2, atom_f, jy, iL h3 (.inl rfl), h3]
  refine Ev.ifp natO (Ev.ifp (int_lt g1) (Ev.val rfl (Ev.ifn (by simp) (Ev.val rfl (Ev.ifp rfl (Ev.ret ?_))))))
  rw [bU _ (by omega)]
  have e : i + 1 + ats.length + 1 = i + ats.length + 2 := by omega
  rw [e]
theorem entry_lim (EF : EFT) (L : List S46) (hL : L.length ≤ 900000) (i : Nat) (t : S46) (ats : List S46) (u : S46) (r : List S46) (h1 : L.drop i = t :: (ats ++ u :: r)) (h2 : ∀ a ∈ ats, isA a = true) (h3 : isS u 123 = true) :
    Ev (fun k => ai.f EF k L (i : Int) 0 0 ((8 : Nat) : Int)) (t.f1, ats, false, [], t.f3, ((i + 1 + ats.length : Nat) : Int), 6, u.f3) := by
  refine jM EF L hL _ i t ats u r h1 h2 _ ?_
  have hd := iX (eP h1).2.2
  obtain ⟨g1, g2, g3⟩ := eP hd
  refine Ev.succ ?_
  simp only [ai.l0, g2, atom_f, jy, iL h3 (.inr (.inl rfl)), h3, isS_ne h3 (show (123 : UInt8) ≠ 59 by decide)]
  refine Ev.ifp natO (Ev.ifp (int_lt g1) (Ev.val rfl (Ev.ifn (by simp) (Ev.val rfl (Ev.ifn (by simp) (Ev.val rfl (Ev.ifp rfl ?_)))))))
  refine Ev.succ ?_
  simp only [ai.j1]
  refine Ev.ifp (by decide) (Ev.val (fail_at L _ u r hd 6) (Ev.now _))
theorem entry_syn (EF : EFT) (L : List S46) (hL : L.length ≤ 900000) (o : Int) (i : Nat) (t : S46) (ats : List S46) (u : S46) (r : List S46) (h1 : L.drop i = t :: (ats ++ u :: r)) (h2 : ∀ a ∈ ats, isA a = true) (hA : isA u = false) (h3 : isS u 59 = false) (h4 : isS u 123 = false) :
    Ev (fun k => ai.f EF k L (i : Int) 0 0 o) (t.f1, ats, false, [], t.f3, ((i + 1 + ats.length : Nat) : Int), 2, u.f3) := by
  refine jM EF L hL o i t ats u r h1 h2 _ ?_
  have hd := iX (eP h1).2.2
  obtain ⟨g1, g2, g3⟩ := eP hd
  refine Ev.succ ?_
  simp only [ai.l0, g2, atom_f, jy, hA, h3, h4]
  refine Ev.ifp natO (Ev.ifp (int_lt g1) (Ev.val rfl (Ev.ifn (by simp) (Ev.val rfl (Ev.ifn (by simp) (Ev.val rfl (Ev.ifn (by simp) ?_)))))))
  refine Ev.succ ?_
  simp only [ai.j1, jy, h4]
  refine Ev.ifn (by simp) (Ev.val rfl (Ev.ifn (by simp) (Ev.val (fail_at L _ u r hd 2) (Ev.now _))))
theorem entry_blk (EF : EFT) (L : List S46) (hL : L.length ≤ 900000) (o : Nat) (ho : o < 8) (i : Nat) (t : S46) (ats : List S46) (u : S46) (r : List S46) (h1 : L.drop i = t :: (ats ++ u :: r)) (h2 : ∀ a ∈ ats, isA a = true) (h3 : isS u 123 = true)
    (y : List S41 × Int × Int × Int) (hy : Ev (fun k => EF k L ((i + ats.length + 2 : Nat) : Int) 0 0 ((o + 1 : Nat) : Int)) y) :
    Ev (fun k => ai.f EF k L (i : Int) 0 0 (o : Int)) (t.f1, ats, true, y.1, t.f3, if y.2.2.1 = 0 then wrap64 (y.2.1 + 1) else y.2.1, y.2.2.1, y.2.2.2) := by
  refine jM EF L hL _ i t ats u r h1 h2 _ ?_
  have hd := iX (eP h1).2.2
  obtain ⟨g1, g2, g3⟩ := eP hd
  refine Ev.succ ?_
  simp only [ai.l0, g2, atom_f, jy, iL h3 (.inr (.inl rfl)), h3, isS_ne h3 (show (123 : UInt8) ≠ 59 by decide)]
  refine Ev.ifp natO (Ev.ifp (int_lt g1) (Ev.val rfl (Ev.ifn (by simp) (Ev.val rfl (Ev.ifn (by simp) (Ev.val rfl (Ev.ifp rfl ?_)))))))
  refine Ev.succ ?_
  simp only [ai.j1, jy, h3]
  have hb : ((o : Int) == 8) = false := by rw [beq_eq_false_iff_ne]; omega
  rw [hb]
  refine Ev.ifn (by simp) (Ev.val rfl (Ev.ifp rfl ?_))
  rw [bU _ (by omega), bU o (by omega)]
  have e : i + 1 + ats.length + 1 = i + ats.length + 2 := by omega
  rw [e]
  refine Ev.bind hy ?_
  by_cases hc : y.2.2.1 = 0
  · refine Ev.ifp hc (Ev.ret ?_)
    rw [if_pos hc]
  · refine Ev.ifn hc (Ev.ret ?_)
    rw [if_neg hc]
abbrev NFT := Nat → List S46 → Int → Int → Int → Int → Option (ByteArray × List S46 × Bool × List S41 × Int × Int × Int × Int)
theorem iH (NF : NFT) (o : Int) (acc : List S41) (L : List S46) (i c a : Int) (hc : c ≠ 0) : Ev (fun k => av.l0 NF k o acc L i c a) (acc, i, c, a) := by
  refine Ev.succ ?_
  simp only [av.l0]
  exact Ev.ifn hc (Ev.now _)
theorem iG (NF : NFT) (o : Int) (acc : List S41) (L : List S46) (i : Nat) (t : S46) (r : List S46) (h1 : L.drop i = t :: r) (ht : t.f0 = 1) (hacc : acc.length ≤ 1000000)
    (b : ByteArray × List S46 × Bool × List S41 × Int × Int × Int × Int) (hb : Ev (fun k => NF k L (i : Int) 0 0 o) b) (y : List S41 × Int × Int × Int)
    (h : Ev (fun k => av.l0 NF k o (acc ++ [⟨b.1, b.2.1, b.2.2.1, b.2.2.2.1, b.2.2.2.2.1⟩]) L b.2.2.2.2.2.1 b.2.2.2.2.2.2.1 b.2.2.2.2.2.2.2) y) :
    Ev (fun k => av.l0 NF k o acc L (i : Int) 0 0) y := by
  obtain ⟨g1, g2, g3⟩ := eP h1
  refine Ev.succ ?_
  simp only [av.l0, g2]
  refine Ev.ifp trivial (Ev.ifp natO (Ev.ifp (int_lt g1) (Ev.ifp ht (Ev.bind hb (Ev.ifp (by omega) h)))))
theorem entries_stop (NF : NFT) (o : Nat) (acc : List S41) (L : List S46) (i : Nat) (t : S46) (r : List S46) (h1 : L.drop i = t :: r) (ht : t.f0 ≠ 1) (hs : iI o t = true) :
    Ev (fun k => av.l0 NF k (o : Int) acc L (i : Int) 0 0) (acc, (i : Int), 0, 0) := by
  obtain ⟨g1, g2, g3⟩ := eP h1
  refine Ev.succ ?_
  simp only [av.l0, g2]
  refine Ev.ifp trivial (Ev.ifp natO (Ev.ifp (int_lt g1) (Ev.ifn ht ?_)))
  by_cases h0 : o = 0
  · refine Ev.ifp (by omega) (Ev.succ ?_)
    simp only [av.j1]
    rw [iI, if_pos h0] at hs
    exact Ev.ifp hs (Ev.now _)
  · refine Ev.ifn (by omega) (Ev.succ ?_)
    simp only [av.j1, jy]
    rw [iI, if_neg h0] at hs
    rw [hs]
    exact Ev.ifn (by simp) (Ev.ifp (by omega) (Ev.val rfl (Ev.ifp rfl (Ev.now _))))
theorem entries_bad (NF : NFT) (o : Nat) (acc : List S41) (L : List S46) (i : Nat) (t : S46) (r : List S46) (h1 : L.drop i = t :: r) (ht : t.f0 ≠ 1) (hs : iI o t = false) :
    Ev (fun k => av.l0 NF k (o : Int) acc L (i : Int) 0 0) (acc, (i : Int), 2, t.f3) := by
  obtain ⟨g1, g2, g3⟩ := eP h1
  refine Ev.succ ?_
  simp only [av.l0, g2]
  refine Ev.ifp trivial (Ev.ifp natO (Ev.ifp (int_lt g1) (Ev.ifn ht ?_)))
  by_cases h0 : o = 0
  · refine Ev.ifp (by omega) (Ev.succ ?_)
    simp only [av.j1]
    rw [iI, if_pos h0] at hs
    rw [hs]
    refine Ev.ifn (by simp) (Ev.ifn (by omega) (Ev.val (fail_at L i t r h1 2) (iH NF _ acc L _ _ _ (by simp))))
  · refine Ev.ifn (by omega) (Ev.succ ?_)
    simp only [av.j1, jy]
    rw [iI, if_neg h0] at hs
    rw [hs]
    refine Ev.ifn (by simp) (Ev.ifp (by omega) (Ev.val rfl (Ev.ifn (by simp) (Ev.val (fail_at L i t r h1 2) (iH NF _ acc L _ _ _ (by simp))))))
def goodA (n : Nat) (acc : List S41) (y : List S41 × Int × Int × Int) : Ans → Prop
  | .ok p => y = (acc ++ p.1, ((n - p.2.length : Nat) : Int), 0, 0)
  | .error e => y.2.2 = e
abbrev entN (d : Nat) : NFT := fun j s a b c o => ai.f (entT d) j s a b c o
theorem run_prog (L : List S46) (hL : L.length ≤ 900000) {o : Nat} {ts : List S46} {x : Ans} (h : RL o ts x) :
    ∀ (d i : Nat) (acc : List S41), 8 ≤ d + o → L.drop i = ts → acc.length ≤ i → ∃ y, Ev (fun k => av.l0 (entN d) k (o : Int) acc L (i : Int) 0 0) y ∧ goodA L.length acc y x := by
  have hlen : ∀ (i : Nat) (q : List S46), L.drop i = q → q ≠ [] → L.length - q.length = i ∧ i ≤ L.length := by
    intro i q hq hne
    have := congrArg List.length hq
    rw [List.length_drop] at this
    have := List.length_pos_iff.2 hne
    omega
  induction h with
  | stop o t r h1 h2 =>
    intro d i acc _ hi _
    refine ⟨_, entries_stop _ o acc L i t r hi h1 h2, ?_⟩
    simp only [goodA, List.append_nil]
    rw [(hlen i _ hi (by simp)).1]
  | bad o t r h1 h2 =>
    intro d i acc _ hi _
    exact ⟨_, entries_bad _ o acc L i t r hi h1 h2, rfl⟩
  | semi o t ats u r x h1 h2 h3 hr ih =>
    intro d i acc hd hi ha
    have hr' := (eP (iX (eP hi).2.2)).2.2
    have e : i + 1 + ats.length + 1 = i + ats.length + 2 := by omega
    rw [e] at hr'
    obtain ⟨y, g1, g2⟩ := ih d (i + ats.length + 2) (acc ++ [⟨t.f1, ats, false, [], t.f3⟩]) hd hr' (by simp; omega)
    refine ⟨y, iG _ _ acc L i t _ hi h1 (by have := hlen i _ hi (by simp); omega) _ (entry_semi (entT d) L hL o i t ats u r hi h2 h3) y g1, ?_⟩
    cases x with
    | error e => exact g2
    | ok p => simpa [goodA, push] using g2
  | syn o t ats u r h1 h2 hA h3 h4 =>
    intro d i acc hd hi ha
    refine ⟨_, iG _ _ acc L i t _ hi h1 (by have := hlen i _ hi (by simp); omega) _ (entry_syn (entT d) L hL o i t ats u r hi h2 hA h3 h4) _ (iH _ _ _ L _ _ _ (by simp)), rfl⟩
  | lim t ats u r h1 h2 h3 =>
    intro d i acc hd hi ha
    refine ⟨_, iG _ _ acc L i t _ hi h1 (by have := hlen i _ hi (by simp); omega) _ (entry_lim (entT d) L hL i t ats u r hi h2 h3) _ (iH _ _ _ L _ _ _ (by simp)), rfl⟩
  | blk o t ats u r ks b q x ho h1 h2 h3 hk hr ihk ih =>
    intro d i acc hd hi ha
    have hr' := (eP (iX (eP hi).2.2)).2.2
    have e : i + 1 + ats.length + 1 = i + ats.length + 2 := by omega
    rw [e] at hr'
    obtain ⟨d', rfl⟩ : ∃ d', d = d' + 1 := ⟨d - 1, by omega⟩
    obtain ⟨yk, k1, k2⟩ := ihk d' (i + ats.length + 2) [] (by omega) hr' (by simp)
    simp only [goodA, List.nil_append] at k2
    obtain ⟨b', q0, pk, f1, f2, f3, f4, f5⟩ := hk.frame _ _ rfl
    have hq : L.drop (i + ats.length + 2 + pk.length) = b :: q := iX (by rw [hr', f4])
    have hq2 := (eP hq).2.2
    have hj := hlen _ _ hq (by simp)
    rw [hj.1] at k2
    obtain ⟨y, g1, g2⟩ := ih (d' + 1) (i + ats.length + 2 + pk.length + 1) (acc ++ [⟨t.f1, ats, true, ks, t.f3⟩]) hd hq2 (by simp; omega)
    have hE := entry_blk (entT (d' + 1)) L hL o ho i t ats u r hi h2 h3 yk k1
    rw [k2] at hE
    rw [if_pos rfl, bU _ (by omega)] at hE
    refine ⟨y, iG _ _ acc L i t _ hi h1 (by have := hlen i _ hi (by simp); omega) _ hE y g1, ?_⟩
    cases x with
    | error e => exact g2
    | ok p => simpa [goodA, push] using g2
  | blkF o t ats u r e ho h1 h2 h3 hk ihk =>
    intro d i acc hd hi ha
    have hr' := (eP (iX (eP hi).2.2)).2.2
    have e' : i + 1 + ats.length + 1 = i + ats.length + 2 := by omega
    rw [e'] at hr'
    obtain ⟨d', rfl⟩ : ∃ d', d = d' + 1 := ⟨d - 1, by omega⟩
    obtain ⟨yk, k1, k2⟩ := ihk d' (i + ats.length + 2) [] (by omega) hr' (by simp)
    simp only [goodA] at k2
    have hc := hk.code _ rfl
    have hE := entry_blk (entT (d' + 1)) L hL o ho i t ats u r hi h2 h3 yk k1
    rw [k2] at hE
    have hne : e.1 ≠ 0 := by omega
    rw [if_neg hne] at hE
    exact ⟨_, iG _ _ acc L i t _ hi h1 (by have := hlen i _ hi (by simp); omega) _ hE _ (iH _ _ _ L _ _ _ hne), rfl⟩
theorem entries_f (L : List S46) (hL : L.length ≤ 900000) {x : Ans} (h : RL 0 L x) : ∃ y, Ev (fun k => dI.f k L 0 0 0 0) y ∧ goodA L.length [] y x := by
  obtain ⟨y, ⟨K, hK⟩, g⟩ := run_prog L hL h 8 0 [] (by omega) rfl (by simp)
  refine ⟨y, ⟨max K 9, fun k hk => ?_⟩, g⟩
  have h1 : entT 9 k L 0 0 0 0 = some y := hK k (by omega)
  have hdeep : ∀ n, entT (9 + n) k L 0 0 0 0 = some y := by
    intro n
    induction n with
    | zero => exact h1
    | succ n ih => exact lv (9 + n) k L 0 0 0 0 _ ih
  have := hdeep (k - 9)
  rwa [show 9 + (k - 9) = k by omega] at this
end Go.Proofs.YtkifdadhojbohaaGreatDoor.Pu
