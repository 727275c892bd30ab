/- Joined out of the texts of this proof that bear the names PrF78 PrF77 PrF85 PrF76 PrF52 PrG52: what each shows stands over it there. -/
import Derived.Test.YtkifdadhojbohaaDoorVk1
import Derived.Test.YtkifdadhojbohaaDoorVb1
set_option linter.unusedVariables false
set_option linter.unusedSimpArgs false
namespace Go.Proofs.YtkifdadhojbohaaDoor.Pr
open Go.Proofs.YtkifdadhojbohaaDoor
open Go.RowKit Go.Proofs.YtkifdadhojbohaaDoorW.PrintWords Go.Proofs.YtkifdadhojbohaaDoorW.PrintLast Go.Proofs.YtkifdadhojbohaaDoorW.PrintMore
attribute [local go_sem] max2_int min2_int max_two min_two max_three min_three max_four min_four   -- for this text's walks alone
set_option linter.unusedVariables false
set_option linter.unusedSimpArgs false
/-- A state of type 69 at block g of W; what its slices lead to came in by w0. -/
def IsS69 (w0 W : World) (g : Nat) (f0 : List (S46)) (f1 : Int) (f2 : Int) (f3 : Int) : Prop := ∃ A0 c0, W.heap[g]? = some (.cells #[.slice A0 f0.length c0, .int .i64 f1, .int .i64 f2, .int .i64 f3] 69 (0, 0)) ∧ w0.heap.size ≤ g ∧ Kd.C k46 w0 A0 f0.length f0
theorem IsS69.grown {w0 W : World} {g : Nat} {f0 : List (S46)} {f1 : Int} {f2 : Int} {f3 : Int} {W1 : World} {row : Option Nat} (h : IsS69 w0 W g f0 f1 f2 f3) (hw : W.grownBy W1 row) (hne : some g ≠ row) : IsS69 w0 W1 g f0 f1 f2 f3 := by
 obtain ⟨A0, c0, hb, hg, hr0⟩ := h
 exact ⟨A0, c0, blk_grown hb hw hne, hg, hr0⟩
theorem IsS69.kept {w0 W : World} {g : Nat} {f0 : List (S46)} {f1 : Int} {f2 : Int} {f3 : Int} {W1 : World} {S : Nat → Prop} (h : IsS69 w0 W g f0 f1 f2 f3) (hk : Kept W W1 S) (hne : ¬ S g) : IsS69 w0 W1 g f0 f1 f2 f3 := by
 obtain ⟨A0, c0, hb, hg, hr0⟩ := h
 exact ⟨A0, c0, blk_kept hb hk hne, hg, hr0⟩
theorem IsS69.below {w0 W : World} {g : Nat} {f0 : List (S46)} {f1 : Int} {f2 : Int} {f3 : Int} {W1 : World} (h : IsS69 w0 W g f0 f1 f2 f3) (hw : Below W.heap.size W W1) : IsS69 w0 W1 g f0 f1 f2 f3 := h.grown (grown_of_below hw none) (by simp)
theorem IsS69.alloc {w0 W : World} {g : Nat} {f0 : List (S46)} {f1 : Int} {f2 : Int} {f3 : Int} (h : IsS69 w0 W g f0 f1 f2 f3) (o : Obj) : IsS69 w0 (W.alloc o) g f0 f1 f2 f3 := h.below (below_alloc (Below.refl _ _) o)
theorem IsS69.drewN {w0 W : World} {g : Nat} {f0 : List (S46)} {f1 : Int} {f2 : Int} {f3 : Int} (h : IsS69 w0 W g f0 f1 f2 f3) (m : Nat) : IsS69 w0 (W.drewN m) g f0 f1 f2 f3 := h
theorem IsS69.drew {w0 W : World} {g : Nat} {f0 : List (S46)} {f1 : Int} {f2 : Int} {f3 : Int} (h : IsS69 w0 W g f0 f1 f2 f3) : IsS69 w0 W.drew g f0 f1 f2 f3 := h
theorem IsS69.at_ {w0 W : World} {g : Nat} {f0 : List (S46)} {f1 : Int} {f2 : Int} {f3 : Int} {w' : World} {m : Nat} (hq : W.drewN m = w') (h : IsS69 w0 W g f0 f1 f2 f3) : IsS69 w0 w' g f0 f1 f2 f3 := by subst hq; exact IsS69.drewN h m
theorem IsS69.apart {w0 W : World} {g : Nat} {f0 : List (S46)} {f1 : Int} {f2 : Int} {f3 : Int} {α : Type} {d : Kd α} {e : Nat} {base : Nat} {ok : Nat → Prop} {v : Value} {xs : List α} (h : IsS69 w0 W g f0 f1 f2 f3) (ho : d.R e W base ok v xs) (ht : ∀ q, q ∈ e :: d.E → q ≠ 69) : d.R e W base (fun k => ok k ∧ k ≠ g) v xs := by
 obtain ⟨A0, c0, hb, hg, hr0⟩ := h
 exact Kd.R_types ho hb ht
theorem IsS69.own_ne {w0 W : World} {g : Nat} {f0 : List (S46)} {f1 : Int} {f2 : Int} {f3 : Int} {α : Type} {d : Kd α} {e : Nat} {base : Nat} {ok : Nat → Prop} {v : Value} {xs : List α} (h : IsS69 w0 W g f0 f1 f2 f3) (ho : d.R e W base ok v xs) (ht : e ≠ 69) : some g ≠ v.ownBlock := by
 obtain ⟨A0, c0, hb, hg, hr0⟩ := h
 exact Kd.R_ne ho hb ht
theorem IsS69.lt {w0 W : World} {g : Nat} {f0 : List (S46)} {f1 : Int} {f2 : Int} {f3 : Int} (h : IsS69 w0 W g f0 f1 f2 f3) : g < W.heap.size := by
 obtain ⟨A0, c0, hb, hg, hr0⟩ := h
 exact blk_lt hb
theorem IsS69.ge {w0 W : World} {g : Nat} {f0 : List (S46)} {f1 : Int} {f2 : Int} {f3 : Int} (h : IsS69 w0 W g f0 f1 f2 f3) : w0.heap.size ≤ g := by
 obtain ⟨A0, c0, hb, hg, hr0⟩ := h
 exact hg
theorem IsS69.far {w0 W : World} {g : Nat} {f0 : List (S46)} {f1 : Int} {f2 : Int} {f3 : Int} {p : Addr} (h : IsS69 w0 W g f0 f1 f2 f3) (hne : g ≠ p.block) (u : Value) : IsS69 w0 (W.setCell p u) g f0 f1 f2 f3 := by
 obtain ⟨A0, c0, hb, hg, hr0⟩ := h
 exact ⟨A0, c0, blk_far hb hne u, hg, hr0⟩
theorem cellS69_0 {W : World} {g : Nat} {A0 : Option Addr} {c0 : Nat} {f0 : List (S46)} {f1 : Int} {f2 : Int} {f3 : Int} (h : W.heap[g]? = some (.cells #[.slice A0 f0.length c0, .int .i64 f1, .int .i64 f2, .int .i64 f3] 69 (0, 0))) : W.cell? ⟨g, 0, none⟩ = some (.slice A0 f0.length c0) := (blk_cell h 0).trans rfl
theorem cellS69_1 {W : World} {g : Nat} {A0 : Option Addr} {c0 : Nat} {f0 : List (S46)} {f1 : Int} {f2 : Int} {f3 : Int} (h : W.heap[g]? = some (.cells #[.slice A0 f0.length c0, .int .i64 f1, .int .i64 f2, .int .i64 f3] 69 (0, 0))) : W.cell? ⟨g, 1, none⟩ = some (.int .i64 f1) := (blk_cell h 1).trans rfl
theorem IsS69.set_1 {w0 W : World} {g : Nat} {f0 : List (S46)} {f1 : Int} {f2 : Int} {f3 : Int} (h : IsS69 w0 W g f0 f1 f2 f3) (x : Int) : IsS69 w0 (W.setCell ⟨g, 1, none⟩ (.int .i64 x)) g f0 x f2 f3 := by
 obtain ⟨A0, c0, hb, hg, hr0⟩ := h
 exact ⟨A0, c0, by simpa using blk_set hb 1 (.int .i64 x), hg, hr0⟩
theorem cellS69_2 {W : World} {g : Nat} {A0 : Option Addr} {c0 : Nat} {f0 : List (S46)} {f1 : Int} {f2 : Int} {f3 : Int} (h : W.heap[g]? = some (.cells #[.slice A0 f0.length c0, .int .i64 f1, .int .i64 f2, .int .i64 f3] 69 (0, 0))) : W.cell? ⟨g, 2, none⟩ = some (.int .i64 f2) := (blk_cell h 2).trans rfl
theorem IsS69.set_2 {w0 W : World} {g : Nat} {f0 : List (S46)} {f1 : Int} {f2 : Int} {f3 : Int} (h : IsS69 w0 W g f0 f1 f2 f3) (x : Int) : IsS69 w0 (W.setCell ⟨g, 2, none⟩ (.int .i64 x)) g f0 f1 x f3 := by
 obtain ⟨A0, c0, hb, hg, hr0⟩ := h
 exact ⟨A0, c0, by simpa using blk_set hb 2 (.int .i64 x), hg, hr0⟩
theorem cellS69_3 {W : World} {g : Nat} {A0 : Option Addr} {c0 : Nat} {f0 : List (S46)} {f1 : Int} {f2 : Int} {f3 : Int} (h : W.heap[g]? = some (.cells #[.slice A0 f0.length c0, .int .i64 f1, .int .i64 f2, .int .i64 f3] 69 (0, 0))) : W.cell? ⟨g, 3, none⟩ = some (.int .i64 f3) := (blk_cell h 3).trans rfl
theorem IsS69.set_3 {w0 W : World} {g : Nat} {f0 : List (S46)} {f1 : Int} {f2 : Int} {f3 : Int} (h : IsS69 w0 W g f0 f1 f2 f3) (x : Int) : IsS69 w0 (W.setCell ⟨g, 3, none⟩ (.int .i64 x)) g f0 f1 f2 x := by
 obtain ⟨A0, c0, hb, hg, hr0⟩ := h
 exact ⟨A0, c0, by simpa using blk_set hb 3 (.int .i64 x), hg, hr0⟩
theorem IsS69.new (w0 W : World) (A0 : Option Addr) (c0 : Nat) (f0 : List (S46)) (f1 : Int) (f2 : Int) (f3 : Int) (hB : Below w0.heap.size w0 W) (hr0 : Kd.C k46 w0 A0 f0.length f0) : IsS69 w0 (W.alloc (.cells #[.slice A0 f0.length c0, .int .i64 f1, .int .i64 f2, .int .i64 f3] 69)) W.heap.size f0 f1 f2 f3 := ⟨A0, c0, by simpa using heap_alloc_new W _, hB.size, hr0⟩
theorem is69_0 {p q : Prop} (k : q) (h : q → p := by intro h; repeat (first | (with_reducible first | exact h | apply IsS69.alloc | apply IsS69.drewN | apply IsS69.drew | apply IsS69.set_1 | apply IsS69.set_2 | apply IsS69.set_3) | exact h)) : p := h k
theorem is69_1 {p q q0 : Prop} (k : q) (g0 : q0) (h : q → q0 → p := by intro h g0; repeat (first | (with_reducible first | exact h | apply IsS69.alloc | apply IsS69.drewN | apply IsS69.drew | apply IsS69.set_1 | apply IsS69.set_2 | apply IsS69.set_3 | refine IsS69.far ?_ g0 _) | exact h)) : p := h k g0
theorem is69_2 {p q q0 q1 : Prop} (k : q) (g0 : q0) (g1 : q1) (h : q → q0 → q1 → p := by intro h g0 g1; repeat (first | (with_reducible first | exact h | apply IsS69.alloc | apply IsS69.drewN | apply IsS69.drew | apply IsS69.set_1 | apply IsS69.set_2 | apply IsS69.set_3 | refine IsS69.far ?_ g0 _ | refine IsS69.far ?_ g1 _) | exact h)) : p := h k g0 g1
theorem is69_3 {p q q0 q1 q2 : Prop} (k : q) (g0 : q0) (g1 : q1) (g2 : q2) (h : q → q0 → q1 → q2 → p := by intro h g0 g1 g2; repeat (first | (with_reducible first | exact h | apply IsS69.alloc | apply IsS69.drewN | apply IsS69.drew | apply IsS69.set_1 | apply IsS69.set_2 | apply IsS69.set_3 | refine IsS69.far ?_ g0 _ | refine IsS69.far ?_ g1 _ | refine IsS69.far ?_ g2 _) | exact h)) : p := h k g0 g1 g2
def parser_parser_fail.f (s0_0 : List (S46)) (s0_1 : Int) (s0_2 : Int) (s0_3 : Int) (a1 : Int) : Option (Int × Int × Int) := if s0_2 = 0 then (if 0 ≤ s0_1 then (if s0_1 < (s0_0.length : Int) then (some (s0_1, a1, (rd_T46 s0_0 s0_1).f3)) else (none)) else (none)) else (some (s0_1, s0_2, s0_3))
def parser_parser_fail.T1 : Bool × List (List Nat × List Nat) := (true, [([], []), ([], []), ([], []), ([2], [2]), ([3], [3]), ([4], [4]), ([], []), ([6], [6]), ([7], [7]), ([8], [8]), ([5, 9], [5, 9]), ([10], [10]), ([11], [11]), ([1, 12], [1, 12]), ([0, 0, 1, 2, 3, 4, 5, 6, 7, 8, 9, 10, 11, 12, 13], [0]), ([14, 0, 1, 2, 3, 4, 5, 6, 7, 8, 9, 10, 11, 12, 13], [14]), ([15, 13, 0, 1, 2, 3, 4, 5, 6, 7, 8, 9, 10, 11, 12, 13], [13, 15])])
def parser_parser_fail.B1 : List Nat := [0, 0, 0, 4, 12, 28, 0, 64, 192, 448, 1020, 2044, 4092, 8190, 16383, 32767, 65535]
theorem parser_parser_fail.tab1 : rtab .any (opsOf Tryd.f78 1) = parser_parser_fail.T1 := by kernel_rfl
theorem parser_parser_fail.bits1 : waitsOk parser_parser_fail.T1.2 parser_parser_fail.B1 = true := by kernel_rfl
set_option maxHeartbeats 8000000 in
set_option maxRecDepth 100000 in
theorem parser_parser_fail.calls (g : Nat) (s0_0 : List (S46)) (s0_1 : Int) (s0_2 : Int) (s0_3 : Int) (a1 : Int) (r1 : Int) (r2 : Int) (r3 : Int) (w0 w : World) (hI : IsS69 w0 w g s0_0 s0_1 s0_2 s0_3) (hB : Below w0.heap.size w0 w) (h : parser_parser_fail.f s0_0 s0_1 s0_2 s0_3 a1 = some (r1, r2, r3)) :
  Calls Tryd.prog 78 #[.pointer (some ⟨g, 0, none⟩), .int .i64 a1] w fun e w' => e = .returned (.tuple #[]) ∧ IsS69 w0 w' g s0_0 r1 r2 r3 ∧ Below w0.heap.size w0 w' ∧ KeepBut w w' g none := by
 have hu26 := Tryd.underlying26
 have HI0 := Aside0.mk hI
 have HK := Aside0.mk (KeepBut.refl w g none)
 have HL := Aside0.mk hB.size
 clear hI
 have HW0 := Aside0.mk hB.size
 have HB := Aside0.mk hB
 clear hB
 have H : (if s0_2 = 0 then (if 0 ≤ s0_1 then (if s0_1 < (s0_0.length : Int) then (some (s0_1, a1, (rd_T46 s0_0 s0_1).f3)) else (none)) else (none)) else (some (s0_1, s0_2, s0_3))) = some (r1, r2, r3) := h
 clear h
 by_cases c3 : s0_2 = 0
 ·
  rw [if_pos c3] at H
  have c3b0 := beq_iff_eq.mpr c3
  have c3b1 := bne_eq_false_iff_eq.mpr c3
  clear c3
  by_cases c4 : 0 ≤ s0_1
  ·
   rw [if_pos c4] at H
   have c4b0 := decide_eq_true c4
   clear c4
   by_cases c5 : s0_1 < (s0_0.length : Int)
   ·
    rw [if_pos c5] at H
    have c5b0 := decide_eq_true c5
    clear c5
    simp only [Option.some.injEq, Prod.mk.injEq] at H
    obtain ⟨rfl, rfl, rfl⟩ := H
    obtain ⟨ASz6_0, cSz6_0, HGz6, hgz6, HSz6_0⟩ := HI0.out
    have hcz6_0 := cellS69_0 HGz6
    have hcz6_1 := cellS69_1 HGz6
    have hcz6_2 := cellS69_2 HGz6
    have hcz6_3 := cellS69_3 HGz6
    have hfz6_1 := blk_frozen HGz6 1
    have hfz6_2 := blk_frozen HGz6 2
    have hfz6_3 := blk_frozen HGz6 3
    clear HGz6 hgz6
    go_enter Tryd.func78, Tryd.ntmps78
    try go_wp2
    refine cut3_ (IsS69.drew HI0.out) (keep_drew HK.out) (below_drew1 HB.out) ?_
    clear HI0 HK HB
    intro HI0 HK HB
    obtain ⟨ASz8_0, cSz8_0, HGz8, hgz8, HSz8_0⟩ := HI0.out
    have hcz8_0 := cellS69_0 HGz8
    have hcz8_1 := cellS69_1 HGz8
    have hcz8_2 := cellS69_2 HGz8
    have hcz8_3 := cellS69_3 HGz8
    have hfz8_1 := blk_frozen HGz8 1
    have hfz8_2 := blk_frozen HGz8 2
    have hfz8_3 := blk_frozen HGz8 3
    clear HGz8 hgz8
    have p101 : 0 ≤ (s0_1 : Int) := dt_
    have q101 : s0_1 < (s0_0.length : Int) := dt_
    obtain ⟨ad101, e101, hx101_0, hx101_1, hx101_2, hx101_3⟩ := at_T46 HSz8_0 s0_1 p101 q101
    have hw101_3 := hx101_3
    have hw101_2 := hx101_2
    have hw101_1 := hx101_1
    have hw101_0 := hx101_0
    cases e101
    replace hx101_0 := pw_cell_below HB.out hx101_0
    replace hx101_1 := pw_cell_below HB.out hx101_1
    replace hx101_2 := pw_cell_below HB.out hx101_2
    replace hx101_3 := pw_cell_below HB.out hx101_3
    replace p101 := eq_true p101
    replace q101 := eq_true q101
    refine start_ (n := 17) (S := fun w' => w'.cell? ⟨g, 0, none⟩ = some (.slice (some ad101) (s0_0).length cSz8_0) ∧ w'.cell? ⟨g, 1, none⟩ = some (.int .i64 s0_1) ∧ w'.cell? ⟨g, 2, none⟩ = some (.int .i64 s0_2) ∧ w'.cell? ⟨g, 3, none⟩ = some (.int .i64 s0_3) ∧ w'.cell? (ad101.add ((s0_1).toNat * 4)) = some (.int .i64 ((rd_T46 s0_0 s0_1).f0)) ∧ w'.cell? ⟨(ad101.add ((s0_1).toNat * 4)).block, (ad101.add ((s0_1).toNat * 4)).off + 1, none⟩ = some (.string ((rd_T46 s0_0 s0_1).f1)) ∧ w'.cell? ⟨(ad101.add ((s0_1).toNat * 4)).block, (ad101.add ((s0_1).toNat * 4)).off + 2, none⟩ = some (.int .i64 ((rd_T46 s0_0 s0_1).f2)) ∧ w'.cell? ⟨(ad101.add ((s0_1).toNat * 4)).block, (ad101.add ((s0_1).toNat * 4)).off + 3, none⟩ = some (.int .i64 ((rd_T46 s0_0 s0_1).f3))) (ds := [16]) #[false, false, false, false, false, false, false, false, false, false, false, false, false, false, false, false, false] (by kernel_rfl) rfl rfl ⟨hcz8_0, hcz8_1, hcz8_2, hcz8_3, (pw_cell_below HB.out hw101_0), (pw_cell_below HB.out hw101_1), (pw_cell_below HB.out hw101_2), (pw_cell_below HB.out hw101_3)⟩ (fun hHeld => ?_); refine with_tabW parser_parser_fail.tab1 parser_parser_fail.bits1 (fun HT_ HW_ => ?_)
    generalize w.drew = w7 at HI0 HK HB hx101_0 hx101_1 hx101_2 hx101_3 hHeld ⊢
    refine pr_ (i := 0) (N := some 10) #[true, false, false, false, false, false, false, false, false, false, false, false, false, false, false, false, false] (any_of HT_.out (by kernel_rfl)) ?_
    refine pr_ (i := 1) (N := some 11) #[true, true, false, false, false, false, false, false, false, false, false, false, false, false, false, false, false] (any_of HT_.out (by kernel_rfl)) ?_
    refine pr_ (i := 2) (N := some 12) #[true, true, true, false, false, false, false, false, false, false, false, false, false, false, false, false, false] (any_of HT_.out (by kernel_rfl)) ?_
    refine pr_ (i := 3) (N := some 13) #[true, true, true, true, false, false, false, false, false, false, false, false, false, false, false, false, false] (any_of HT_.out (by kernel_rfl)) ?_
    refine pr_ (i := 4) (N := some 14) #[true, true, true, true, true, false, false, false, false, false, false, false, false, false, false, false, false] (any_of HT_.out (by kernel_rfl)) ?_
    refine pr_ (i := 6) (N := some 16) #[true, true, true, true, true, false, true, false, false, false, false, false, false, false, false, false, false] (any_of HT_.out (by kernel_rfl)) ?_
    refine pr_ (i := 7) (N := some 17) #[true, true, true, true, true, false, true, true, false, false, false, false, false, false, false, false, false] (any_of HT_.out (by kernel_rfl)) ?_
    refine pr_ (i := 8) (N := some 18) #[true, true, true, true, true, false, true, true, true, false, false, false, false, false, false, false, false] (any_of HT_.out (by kernel_rfl)) ?_
    refine take_ (i := 5) (N := some 15) (v := ?_) (a' := ?_) #[true, true, true, true, true, true, true, true, true, false, false, false, false, false, false, false, false] rfl rfl (take_ofW HT_.out HW_.out (by kernel_rfl)) (fun _ _ _ h => h) (Or.inl ⟨by rfl, ?_⟩) hHeld ?_ ?_
    rotate_left
    ·
     rintro w' ⟨s0, s1, s2, s3, s4, s5, s6, s7⟩
     go_simp
     with_reducible rfl
    rotate_left
    ·
     simp only [Act.put, List.setIfInBounds_toArray, List.set_cons_zero, List.set_cons_succ, i64_w, i32_w]
     rfl
    refine take_ (i := 9) (N := some 19) (v := ?_) (a' := ?_) #[true, true, true, true, true, true, true, true, true, true, false, false, false, false, false, false, false] rfl rfl (take_ofW HT_.out HW_.out (by kernel_rfl)) (fun _ _ _ h => h) (Or.inl ⟨by rfl, ?_⟩) hHeld ?_ ?_
    rotate_left
    ·
     rintro w' ⟨s0, s1, s2, s3, s4, s5, s6, s7⟩
     go_simp
     with_reducible rfl
    rotate_left
    ·
     simp only [Act.put, List.setIfInBounds_toArray, List.set_cons_zero, List.set_cons_succ, i64_w, i32_w]
     rfl
    refine pr_ (i := 10) (N := some 20) #[true, true, true, true, true, true, true, true, true, true, true, false, false, false, false, false, false] (any_of HT_.out (by kernel_rfl)) ?_
    refine pr_ (i := 11) (N := some 21) #[true, true, true, true, true, true, true, true, true, true, true, true, false, false, false, false, false] (any_of HT_.out (by kernel_rfl)) ?_
    refine take_ (i := 12) (N := some 22) (v := ?_) (a' := ?_) #[true, true, true, true, true, true, true, true, true, true, true, true, true, false, false, false, false] rfl rfl (take_ofW HT_.out HW_.out (by kernel_rfl)) (fun _ _ _ h => h) (Or.inl ⟨by rfl, ?_⟩) hHeld ?_ ?_
    rotate_left
    ·
     rintro w' ⟨s0, s1, s2, s3, s4, s5, s6, s7⟩
     go_simp
     with_reducible rfl
    rotate_left
    ·
     simp only [Act.put, List.setIfInBounds_toArray, List.set_cons_zero, List.set_cons_succ, i64_w, i32_w]
     rfl
    refine pr_ (i := 13) (N := some 23) #[true, true, true, true, true, true, true, true, true, true, true, true, true, true, false, false, false] (any_of HT_.out (by kernel_rfl)) ?_
    refine pr_ (i := 14) (N := some 24) #[true, true, true, true, true, true, true, true, true, true, true, true, true, true, true, false, false] (any_of HT_.out (by kernel_rfl)) ?_
    refine pr_ (i := 15) (N := some 25) #[true, true, true, true, true, true, true, true, true, true, true, true, true, true, true, true, false] (any_of HT_.out (by kernel_rfl)) ?_
    refine last_ (i := 16) (N := none) #[true, true, true, true, true, true, true, true, true, true, true, true, true, true, true, true, true] rfl rfl (one_of HT_.out (by kernel_rfl)) (by decide) (fun K hK => ?_)
    obtain ⟨_, _, hbf_, _, _⟩ := HI0.out
    have hff2_ := blk_frozen hbf_ 2
    have hff3_ := blk_frozen hbf_ 3
    clear hbf_
    refine skip_ (w1 := ?_) (by rfl) rfl ?_ ?_
    rotate_left
    ·
     go_simp
     rfl
    refine hK.out _ _ ?_
    clear hK K
    refine done_ (done_of HT_.out (by kernel_rfl)) ?_
    try go_wp2
    first | go_end0 | ((try simp only [Exit.inBlock, Exit.then]); refine bodyPost_ret (results_none rfl _ _ _) rfl ?_)
    exact ⟨er_, is69_0 HI0.out, by repeat (first | (with_reducible first | exact HB.out | apply below_alloc | apply pw_below_drewN | apply below_drew1 | refine below_set ?_ (IsS69.ge HI0.out)) | exact HB.out), by repeat (first | (with_reducible first | exact HK.out | apply KeepBut.set_ | apply keep_drewN | apply keep_drew | apply keep_alloc) | exact HK.out)⟩
   ·
    rw [if_neg c5] at H
    exact absurd H (by simp)
  ·
   rw [if_neg c4] at H
   exact absurd H (by simp)
 ·
  rw [if_neg c3] at H
  have c3b0 := beq_eq_false_iff_ne.mpr c3
  have c3b1 := bne_iff_ne.mpr c3
  simp only [Option.some.injEq, Prod.mk.injEq] at H
  obtain ⟨rfl, rfl, rfl⟩ := H
  obtain ⟨ASz9_0, cSz9_0, HGz9, hgz9, HSz9_0⟩ := HI0.out
  have hcz9_0 := cellS69_0 HGz9
  have hcz9_1 := cellS69_1 HGz9
  have hcz9_2 := cellS69_2 HGz9
  have hcz9_3 := cellS69_3 HGz9
  have hfz9_1 := blk_frozen HGz9 1
  have hfz9_2 := blk_frozen HGz9 2
  have hfz9_3 := blk_frozen HGz9 3
  clear HGz9 hgz9
  go_enter Tryd.func78, Tryd.ntmps78
  go_wp2
  first | go_end0 | ((try simp only [Exit.inBlock, Exit.then]); refine bodyPost_ret (results_none rfl _ _ _) rfl ?_)
  exact ⟨er_, is69_0 HI0.out, by repeat (first | (with_reducible first | exact HB.out | apply below_alloc | apply pw_below_drewN | apply below_drew1 | refine below_set ?_ (IsS69.ge HI0.out)) | exact HB.out), by repeat (first | (with_reducible first | exact HK.out | apply KeepBut.set_ | apply keep_drewN | apply keep_drew | apply keep_alloc) | exact HK.out)⟩
def parser_sign.f (a0_0 : Int) (a0_1 : ByteArray) (a0_2 : Int) (a0_3 : Int) (a1 : ByteArray) : Option (Bool) := if a0_0 = 4 then (some (a0_1.toList == a1.toList)) else (some false)
set_option maxHeartbeats 8000000 in
set_option maxRecDepth 100000 in
theorem parser_sign.calls (a0_0 : Int) (a0_1 : ByteArray) (a0_2 : Int) (a0_3 : Int) (a1 : ByteArray) (r : Bool) (w : World) (h : parser_sign.f a0_0 a0_1 a0_2 a0_3 a1 = some r) :
  Calls Tryd.prog 77 #[.agg #[.int .i64 a0_0, .string a0_1, .int .i64 a0_2, .int .i64 a0_3], .string a1] w fun e w' => e = .returned (.bool r) ∧ Below w.heap.size w w' := by
 have hu46 := Tryd.underlying46
 have HB := Aside0.mk (Below.refl w.heap.size w)
 have H : (if a0_0 = 4 then (some (a0_1.toList == a1.toList)) else (some false)) = some r := h
 clear h
 by_cases c3 : a0_0 = 4
 ·
  rw [if_pos c3] at H
  have c3b0 := beq_iff_eq.mpr c3
  have c3b1 := bne_eq_false_iff_eq.mpr c3
  clear c3
  obtain rfl := Option.some.inj H
  go_enter Tryd.func77, Tryd.ntmps77
  go_wp2_with (first | ((with_reducible refine gate_dst (N := 2) rfl ?_); refine bx_ (N := 2) (cs := #[.int .i64 a0_0, .string a0_1, .int .i64 a0_2, .int .i64 a0_3]) (t := 46) ?_; intro gb149 hg w4 hbox hb; refine cut4_ (below_step (bl_ HB.out) hb) (hbox) (bz_ (w := w) hg (bl_ HB.out)) (bz_ (w := w) hg (bl_ HB.out)) ?_; clear HB; intro HB BK149 GW149 GE149; clear hb hbox hg; obtain ⟨hcz5_0, hcz5_1, hcz5_2, hcz5_3, hfz5_0, hfz5_1, hfz5_2, hfz5_3⟩ := cq4_ BK149.out))
  go_ret
  exact ⟨er_, bl1_ HB.out GE149.out⟩
 ·
  rw [if_neg c3] at H
  have c3b0 := beq_eq_false_iff_ne.mpr c3
  have c3b1 := bne_iff_ne.mpr c3
  obtain rfl := Option.some.inj H
  go_enter Tryd.func77, Tryd.ntmps77
  go_wp2_with (first | ((with_reducible refine gate_dst (N := 2) rfl ?_); refine bx_ (N := 2) (cs := #[.int .i64 a0_0, .string a0_1, .int .i64 a0_2, .int .i64 a0_3]) (t := 46) ?_; intro gb149 hg w6 hbox hb; refine cut4_ (below_step (bl_ HB.out) hb) (hbox) (bz_ (w := w) hg (bl_ HB.out)) (bz_ (w := w) hg (bl_ HB.out)) ?_; clear HB; intro HB BK149 GW149 GE149; clear hb hbox hg; obtain ⟨hcz7_0, hcz7_1, hcz7_2, hcz7_3, hfz7_0, hfz7_1, hfz7_2, hfz7_3⟩ := cq4_ BK149.out))
  go_ret
  exact ⟨er_, bl1_ HB.out GE149.out⟩
def parser_atom.f (a0_0 : Int) (a0_1 : ByteArray) (a0_2 : Int) (a0_3 : Int) : Option (Bool) := if a0_0 = 5 then (some false) else ((parser_sign.f a0_0 a0_1 a0_2 a0_3 (⟨#[59]⟩ : ByteArray)).bind fun t152 => (if t152 = true then (some false) else ((parser_sign.f a0_0 a0_1 a0_2 a0_3 (⟨#[123]⟩ : ByteArray)).bind fun t153 => (if t153 = true then (some false) else ((parser_sign.f a0_0 a0_1 a0_2 a0_3 (⟨#[125]⟩ : ByteArray)).bind fun t154 => (some (!t154)))))))
set_option maxHeartbeats 8000000 in
set_option maxRecDepth 100000 in
theorem parser_atom.calls (a0_0 : Int) (a0_1 : ByteArray) (a0_2 : Int) (a0_3 : Int) (r : Bool) (w : World) (h : parser_atom.f a0_0 a0_1 a0_2 a0_3 = some r) :
  Calls Tryd.prog 85 #[.agg #[.int .i64 a0_0, .string a0_1, .int .i64 a0_2, .int .i64 a0_3]] w fun e w' => e = .returned (.bool r) ∧ Below w.heap.size w w' := by
 have hu46 := Tryd.underlying46
 have HB := Aside0.mk (Below.refl w.heap.size w)
 have H : (if a0_0 = 5 then (some false) else ((parser_sign.f a0_0 a0_1 a0_2 a0_3 (⟨#[59]⟩ : ByteArray)).bind fun t152 => (if t152 = true then (some false) else ((parser_sign.f a0_0 a0_1 a0_2 a0_3 (⟨#[123]⟩ : ByteArray)).bind fun t153 => (if t153 = true then (some false) else ((parser_sign.f a0_0 a0_1 a0_2 a0_3 (⟨#[125]⟩ : ByteArray)).bind fun t154 => (some (!t154)))))))) = some r := h
 clear h
 by_cases c2 : a0_0 = 5
 ·
  rw [if_pos c2] at H
  have c2b0 := beq_iff_eq.mpr c2
  have c2b1 := bne_eq_false_iff_eq.mpr c2
  clear c2
  obtain rfl := Option.some.inj H
  go_enter Tryd.func85, Tryd.ntmps85
  go_wp2_with (first | ((with_reducible refine gate_dst (N := 1) rfl ?_); refine bx_ (N := 1) (cs := #[.int .i64 a0_0, .string a0_1, .int .i64 a0_2, .int .i64 a0_3]) (t := 46) ?_; intro gb151 hg w3 hbox hb; refine cut4_ (below_step (bl_ HB.out) hb) (hbox) (bz_ (w := w) hg (bl_ HB.out)) (bz_ (w := w) hg (bl_ HB.out)) ?_; clear HB; intro HB BK151 GW151 GE151; clear hb hbox hg; obtain ⟨hcz4_0, hcz4_1, hcz4_2, hcz4_3, hfz4_0, hfz4_1, hfz4_2, hfz4_3⟩ := cq4_ BK151.out))
  go_ret
  exact ⟨er_, bl1_ HB.out GE151.out⟩
 ·
  rw [if_neg c2] at H
  have c2b0 := beq_eq_false_iff_ne.mpr c2
  have c2b1 := bne_iff_ne.mpr c2
  replace H := Option.bind_eq_some_iff.mp H
  obtain ⟨t152, A50, H⟩ := H
  (try dsimp only at H)
  have A5 := Aside0.mk A50
  clear A50
  by_cases c6 : t152 = true
  ·
   subst c6
   have H1 : (some false) = some r := by rw [if_pos rfl] at H; exact H
   clear H
   have H := H1
   clear H1
   obtain rfl := Option.some.inj H
   go_enter Tryd.func85, Tryd.ntmps85
   go_wp2_with (first | ((with_reducible refine gate_dst (N := 1) rfl ?_); refine bx_ (N := 1) (cs := #[.int .i64 a0_0, .string a0_1, .int .i64 a0_2, .int .i64 a0_3]) (t := 46) ?_; intro gb151 hg w7 hbox hb; refine cut4_ (below_step (bl_ HB.out) hb) (hbox) (bz_ (w := w) hg (bl_ HB.out)) (bz_ (w := w) hg (bl_ HB.out)) ?_; clear HB; intro HB BK151 GW151 GE151; clear hb hbox hg; obtain ⟨hcz8_0, hcz8_1, hcz8_2, hcz8_3, hfz8_0, hfz8_1, hfz8_2, hfz8_3⟩ := cq4_ BK151.out) | (go_at_call 77; (with_reducible refine (parser_sign.calls a0_0 a0_1 a0_2 a0_3 (⟨#[59]⟩ : ByteArray) true _ A5.out).mono ?_); rintro e w9 ⟨rfl, hb⟩; refine cut2_ (bb_ BK151.out hb) (below_step (bl1_ HB.out GE151.out) hb) ?_; clear BK151 HB; intro BK151 HB; (try clear hb); (try clear hb2); (try clear hk); (try clear hi)))
   go_ret
   exact ⟨er_, bl1_ HB.out GE151.out⟩
  ·
   replace c6 := Bool.eq_false_iff.mpr c6
   subst c6
   have H1 : ((parser_sign.f a0_0 a0_1 a0_2 a0_3 (⟨#[123]⟩ : ByteArray)).bind fun t153 => (if t153 = true then (some false) else ((parser_sign.f a0_0 a0_1 a0_2 a0_3 (⟨#[125]⟩ : ByteArray)).bind fun t154 => (some (!t154))))) = some r := by rw [if_neg (show ¬ (false = true) by decide)] at H; exact H
   clear H
   have H := H1
   clear H1
   replace H := Option.bind_eq_some_iff.mp H
   obtain ⟨t153, A100, H⟩ := H
   (try dsimp only at H)
   have A10 := Aside0.mk A100
   clear A100
   by_cases c11 : t153 = true
   ·
    subst c11
    have H1 : (some false) = some r := by rw [if_pos rfl] at H; exact H
    clear H
    have H := H1
    clear H1
    obtain rfl := Option.some.inj H
    go_enter Tryd.func85, Tryd.ntmps85
    go_wp2_with (first | ((with_reducible refine gate_dst (N := 1) rfl ?_); refine bx_ (N := 1) (cs := #[.int .i64 a0_0, .string a0_1, .int .i64 a0_2, .int .i64 a0_3]) (t := 46) ?_; intro gb151 hg w12 hbox hb; refine cut4_ (below_step (bl_ HB.out) hb) (hbox) (bz_ (w := w) hg (bl_ HB.out)) (bz_ (w := w) hg (bl_ HB.out)) ?_; clear HB; intro HB BK151 GW151 GE151; clear hb hbox hg; obtain ⟨hcz13_0, hcz13_1, hcz13_2, hcz13_3, hfz13_0, hfz13_1, hfz13_2, hfz13_3⟩ := cq4_ BK151.out) | (go_at_call 77; (with_reducible refine (parser_sign.calls a0_0 a0_1 a0_2 a0_3 (⟨#[59]⟩ : ByteArray) false _ A5.out).mono ?_); rintro e w14 ⟨rfl, hb⟩; refine cut2_ (bb_ BK151.out hb) (below_step (bl1_ HB.out GE151.out) hb) ?_; clear BK151 HB; intro BK151 HB; (try clear hb); (try clear hb2); (try clear hk); (try clear hi); obtain ⟨hcz15_0, hcz15_1, hcz15_2, hcz15_3, hfz15_0, hfz15_1, hfz15_2, hfz15_3⟩ := cq4_ BK151.out) | (go_at_call 77; (with_reducible refine (parser_sign.calls a0_0 a0_1 a0_2 a0_3 (⟨#[123]⟩ : ByteArray) true _ A10.out).mono ?_); rintro e w16 ⟨rfl, hb⟩; refine cut2_ (bb_ BK151.out hb) (below_step (bl1_ HB.out GE151.out) hb) ?_; clear BK151 HB; intro BK151 HB; (try clear hb); (try clear hb2); (try clear hk); (try clear hi)))
    go_ret
    exact ⟨er_, bl1_ HB.out GE151.out⟩
   ·
    replace c11 := Bool.eq_false_iff.mpr c11
    subst c11
    have H1 : ((parser_sign.f a0_0 a0_1 a0_2 a0_3 (⟨#[125]⟩ : ByteArray)).bind fun t154 => (some (!t154))) = some r := by rw [if_neg (show ¬ (false = true) by decide)] at H; exact H
    clear H
    have H := H1
    clear H1
    replace H := Option.bind_eq_some_iff.mp H
    obtain ⟨t154, A170, H⟩ := H
    (try dsimp only at H)
    have A17 := Aside0.mk A170
    clear A170
    obtain rfl := Option.some.inj H
    go_enter Tryd.func85, Tryd.ntmps85
    go_wp2_with (first | ((with_reducible refine gate_dst (N := 1) rfl ?_); refine bx_ (N := 1) (cs := #[.int .i64 a0_0, .string a0_1, .int .i64 a0_2, .int .i64 a0_3]) (t := 46) ?_; intro gb151 hg w18 hbox hb; refine cut4_ (below_step (bl_ HB.out) hb) (hbox) (bz_ (w := w) hg (bl_ HB.out)) (bz_ (w := w) hg (bl_ HB.out)) ?_; clear HB; intro HB BK151 GW151 GE151; clear hb hbox hg; obtain ⟨hcz19_0, hcz19_1, hcz19_2, hcz19_3, hfz19_0, hfz19_1, hfz19_2, hfz19_3⟩ := cq4_ BK151.out) | (go_at_call 77; (with_reducible refine (parser_sign.calls a0_0 a0_1 a0_2 a0_3 (⟨#[59]⟩ : ByteArray) false _ A5.out).mono ?_); rintro e w20 ⟨rfl, hb⟩; refine cut2_ (bb_ BK151.out hb) (below_step (bl1_ HB.out GE151.out) hb) ?_; clear BK151 HB; intro BK151 HB; (try clear hb); (try clear hb2); (try clear hk); (try clear hi); obtain ⟨hcz21_0, hcz21_1, hcz21_2, hcz21_3, hfz21_0, hfz21_1, hfz21_2, hfz21_3⟩ := cq4_ BK151.out) | (go_at_call 77; (with_reducible refine (parser_sign.calls a0_0 a0_1 a0_2 a0_3 (⟨#[123]⟩ : ByteArray) false _ A10.out).mono ?_); rintro e w22 ⟨rfl, hb⟩; refine cut2_ (bb_ BK151.out hb) (below_step (bl1_ HB.out GE151.out) hb) ?_; clear BK151 HB; intro BK151 HB; (try clear hb); (try clear hb2); (try clear hk); (try clear hi); obtain ⟨hcz23_0, hcz23_1, hcz23_2, hcz23_3, hfz23_0, hfz23_1, hfz23_2, hfz23_3⟩ := cq4_ BK151.out) | (go_at_call 77; (with_reducible refine (parser_sign.calls a0_0 a0_1 a0_2 a0_3 (⟨#[125]⟩ : ByteArray) t154 _ A17.out).mono ?_); rintro e w24 ⟨rfl, hb⟩; refine cut2_ (bb_ BK151.out hb) (below_step (bl1_ HB.out GE151.out) hb) ?_; clear BK151 HB; intro BK151 HB; (try clear hb); (try clear hb2); (try clear hk); (try clear hi)))
    go_ret
    exact ⟨er_, bl1_ HB.out GE151.out⟩
mutual
def parser_parser_entry.l0 (EF : Nat → List S46 → Int → Int → Int → Int → Option (List S41 × Int × Int × Int)) : Nat → Int → List (S46) → Int → Int → Int → ByteArray → List (S46) → Bool → Int → Option (ByteArray × (List (S46)) × Bool × (List (S41)) × Int × Int × Int × Int)
 | 0, _, _, _, _, _, _, _, _, _ => none
 | k + 1, x1, x1000, x1001, x1002, x1003, x111000, x111001, x111002, x111004 => if 0 ≤ x1001 then (if x1001 < (x1000.length : Int) then ((parser_atom.f ((rd_T46 x1000 x1001).f0) ((rd_T46 x1000 x1001).f1) ((rd_T46 x1000 x1001).f2) ((rd_T46 x1000 x1001).f3)).bind fun t112 => (if t112 = true then (if x111001.length < 3518437208883 then (parser_parser_entry.l0 EF k x1 x1000 (wrap64 (x1001 + 1)) x1002 x1003 x111000 (x111001 ++ [(⟨(rd_T46 x1000 x1001).f0, (rd_T46 x1000 x1001).f1, (rd_T46 x1000 x1001).f2, (rd_T46 x1000 x1001).f3⟩ : S46)]) x111002 x111004) else (none)) else ((parser_sign.f ((rd_T46 x1000 x1001).f0) ((rd_T46 x1000 x1001).f1) ((rd_T46 x1000 x1001).f2) ((rd_T46 x1000 x1001).f3) (⟨#[59]⟩ : ByteArray)).bind fun t119 => (if t119 = true then (some (x111000, x111001, x111002, ([] : List (S41)), x111004, wrap64 (x1001 + 1), x1002, x1003)) else ((parser_sign.f ((rd_T46 x1000 x1001).f0) ((rd_T46 x1000 x1001).f1) ((rd_T46 x1000 x1001).f2) ((rd_T46 x1000 x1001).f3) (⟨#[123]⟩ : ByteArray)).bind fun t120 => (if t120 = true then (parser_parser_entry.j1 EF k x1 (x1 == 8) x1000 x1001 x1002 x1003 x111000 x111001 x111002 x111004 ((rd_T46 x1000 x1001).f0) ((rd_T46 x1000 x1001).f1) ((rd_T46 x1000 x1001).f2) ((rd_T46 x1000 x1001).f3)) else (parser_parser_entry.j1 EF k x1 false x1000 x1001 x1002 x1003 x111000 x111001 x111002 x111004 ((rd_T46 x1000 x1001).f0) ((rd_T46 x1000 x1001).f1) ((rd_T46 x1000 x1001).f2) ((rd_T46 x1000 x1001).f3)))))))) else (none)) else (none)
def parser_parser_entry.j1 (EF : Nat → List S46 → Int → Int → Int → Int → Option (List S41 × Int × Int × Int)) : Nat → Int → Bool → List (S46) → Int → Int → Int → ByteArray → List (S46) → Bool → Int → Int → ByteArray → Int → Int → Option (ByteArray × (List (S46)) × Bool × (List (S41)) × Int × Int × Int × Int)
 | 0, _, _, _, _, _, _, _, _, _, _, _, _, _, _ => none
 | k + 1, x1, x92, x1000, x1001, x1002, x1003, x111000, x111001, x111002, x111004, x119000, x119001, x119002, x119003 => if x92 = true then ((parser_parser_fail.f x1000 x1001 x1002 x1003 6).bind fun bt121 => (some (x111000, x111001, x111002, ([] : List (S41)), x111004, bt121.1, bt121.2.1, bt121.2.2))) else ((parser_sign.f x119000 x119001 x119002 x119003 (⟨#[123]⟩ : ByteArray)).bind fun t124 => (if t124 = true then ((EF k x1000 (wrap64 (x1001 + 1)) x1002 x1003 (wrap64 (x1 + 1))).bind fun bt125 => (if bt125.2.2.1 = 0 then (some (x111000, x111001, true, bt125.1, x111004, wrap64 (bt125.2.1 + 1), bt125.2.2.1, bt125.2.2.2)) else (some (x111000, x111001, true, bt125.1, x111004, bt125.2.1, bt125.2.2.1, bt125.2.2.2)))) else ((parser_parser_fail.f x1000 x1001 x1002 x1003 2).bind fun bt131 => (some (x111000, x111001, x111002, ([] : List (S41)), x111004, bt131.1, bt131.2.1, bt131.2.2)))))
end
def parser_parser_entry.f (EF : Nat → List S46 → Int → Int → Int → Int → Option (List S41 × Int × Int × Int)) (k : Nat) (s0_0 : List (S46)) (s0_1 : Int) (s0_2 : Int) (s0_3 : Int) (a1 : Int) : Option (ByteArray × (List (S46)) × Bool × (List (S41)) × Int × Int × Int × Int) := if 0 ≤ s0_1 then (if s0_1 < (s0_0.length : Int) then (parser_parser_entry.l0 EF k a1 s0_0 (wrap64 (s0_1 + 1)) s0_2 s0_3 ((rd_T46 s0_0 s0_1).f1) ([] : List (S46)) false ((rd_T46 s0_0 s0_1).f3)) else (none)) else (none)
theorem parser_parser_entry.mono_l (EF : Nat → List S46 → Int → Int → Int → Int → Option (List S41 × Int × Int × Int)) (mEF : ∀ x0 x1 x2 x3 x4 k, LeO (EF k x0 x1 x2 x3 x4) (EF (k + 1) x0 x1 x2 x3 x4)) : ∀ k, (∀ y0 y1 y2 y3 y4 y5 y6 y7 y8, LeO (parser_parser_entry.l0 EF k y0 y1 y2 y3 y4 y5 y6 y7 y8) (parser_parser_entry.l0 EF (k + 1) y0 y1 y2 y3 y4 y5 y6 y7 y8)) ∧ (∀ y0 y1 y2 y3 y4 y5 y6 y7 y8 y9 y10 y11 y12 y13, LeO (parser_parser_entry.j1 EF k y0 y1 y2 y3 y4 y5 y6 y7 y8 y9 y10 y11 y12 y13) (parser_parser_entry.j1 EF (k + 1) y0 y1 y2 y3 y4 y5 y6 y7 y8 y9 y10 y11 y12 y13))
 | 0 => ⟨fun _ _ _ _ _ _ _ _ _ r h => by simp [parser_parser_entry.l0] at h, fun _ _ _ _ _ _ _ _ _ _ _ _ _ _ r h => by simp [parser_parser_entry.j1] at h⟩
 | k + 1 => by
  obtain ⟨ih0, ih1⟩ := parser_parser_entry.mono_l EF mEF k
  refine ⟨?_, ?_⟩
  ·
   intro y0 y1 y2 y3 y4 y5 y6 y7 y8
   unfold parser_parser_entry.l0
   repeat' first
   | (with_reducible exact LeO.refl _)
   | exact ih0 _ _ _ _ _ _ _ _ _
   | exact ih1 _ _ _ _ _ _ _ _ _ _ _ _ _ _
   | exact mEF _ _ _ _ _ _
   | exact LeO.none _
   | refine LeO.ite ?_ ?_
   | refine LeO.bind ?_ (fun _ => ?_)
  ·
   intro y0 y1 y2 y3 y4 y5 y6 y7 y8 y9 y10 y11 y12 y13
   unfold parser_parser_entry.j1
   repeat' first
   | (with_reducible exact LeO.refl _)
   | exact ih0 _ _ _ _ _ _ _ _ _
   | exact ih1 _ _ _ _ _ _ _ _ _ _ _ _ _ _
   | exact mEF _ _ _ _ _ _
   | exact LeO.none _
   | refine LeO.ite ?_ ?_
   | refine LeO.bind ?_ (fun _ => ?_)
theorem parser_parser_entry.mono (EF : Nat → List S46 → Int → Int → Int → Int → Option (List S41 × Int × Int × Int)) (mEF : ∀ x0 x1 x2 x3 x4 k, LeO (EF k x0 x1 x2 x3 x4) (EF (k + 1) x0 x1 x2 x3 x4)) : ∀ a0 a1 a2 a3 a4 k, LeO (parser_parser_entry.f EF k a0 a1 a2 a3 a4) (parser_parser_entry.f EF (k + 1) a0 a1 a2 a3 a4) := by
 intro a0 a1 a2 a3 a4 k
 obtain ⟨ih0, ih1⟩ := parser_parser_entry.mono_l EF mEF k
 unfold parser_parser_entry.f
 repeat' first
   | (with_reducible exact LeO.refl _)
   | exact ih0 _ _ _ _ _ _ _ _ _
   | exact ih1 _ _ _ _ _ _ _ _ _ _ _ _ _ _
   | exact mEF _ _ _ _ _ _
   | exact LeO.none _
   | refine LeO.ite ?_ ?_
   | refine LeO.bind ?_ (fun _ => ?_)
def parser_parser_entry.T1 : Bool × List (List Nat × List Nat) := (true, [([], []), ([0], [0]), ([1], [1]), ([2], [2]), ([], []), ([4], [4]), ([5], [5]), ([6], [6]), ([3, 7], [3, 7]), ([8], [8]), ([9], [9]), ([], []), ([11], [11]), ([12], [12]), ([13], [13]), ([], []), ([15], [15]), ([16], [16]), ([17], [17]), ([14, 18], [14, 18]), ([19], [19]), ([20], [20]), ([10, 21], [10, 21]), ([], []), ([23, 22, 0, 1, 2, 3, 4, 5, 6, 7, 8, 9, 10, 11, 12, 13, 14, 15, 16, 17, 18, 19, 20, 21, 22, 23], [22, 23])])
def parser_parser_entry.B1 : List Nat := [0, 1, 3, 7, 0, 16, 48, 112, 255, 511, 1023, 0, 2048, 6144, 14336, 0, 32768, 98304, 229376, 522240, 1046528, 2095104, 4194303, 0, 16777215]
theorem parser_parser_entry.tab1 : rtab .any (opsOf Tryd.f76 1) = parser_parser_entry.T1 := by kernel_rfl
theorem parser_parser_entry.bits1 : waitsOk parser_parser_entry.T1.2 parser_parser_entry.B1 = true := by kernel_rfl
def parser_parser_entry.T3 : Bool × List (List Nat × List Nat) := (true, [([], []), ([0], [0]), ([1], [1]), ([2], [2]), ([], []), ([4], [4]), ([5], [5]), ([6], [6]), ([3, 7], [3, 7]), ([8], [8]), ([9], [9])])
def parser_parser_entry.B3 : List Nat := [0, 1, 3, 7, 0, 16, 48, 112, 255, 511, 1023]
theorem parser_parser_entry.tab3 : rtab .any (opsOf Tryd.f76 3) = parser_parser_entry.T3 := by kernel_rfl
theorem parser_parser_entry.bits3 : waitsOk parser_parser_entry.T3.2 parser_parser_entry.B3 = true := by kernel_rfl
def parser_parser_entry.T5 : Bool × List (List Nat × List Nat) := (true, [([], []), ([0], [0]), ([], []), ([2], [2]), ([3], [3]), ([4], [4]), ([], []), ([6], [6]), ([7], [7]), ([8], [8]), ([5, 9], [5, 9]), ([10], [10]), ([11], [11]), ([1, 12], [1, 12]), ([0, 1, 2, 3, 4, 5, 6, 7, 8, 9, 10, 11, 12, 13], []), ([14, 13, 13, 0, 1, 2, 3, 4, 5, 6, 7, 8, 9, 10, 11, 12, 13], [13, 14])])
def parser_parser_entry.B5 : List Nat := [0, 1, 0, 4, 12, 28, 0, 64, 192, 448, 1020, 2044, 4092, 8191, 16383, 32767]
theorem parser_parser_entry.tab5 : rtab .any (opsOf Tryd.f76 5) = parser_parser_entry.T5 := by kernel_rfl
theorem parser_parser_entry.bits5 : waitsOk parser_parser_entry.T5.2 parser_parser_entry.B5 = true := by kernel_rfl
def parser_parser_entry.T6 : Bool × List (List Nat × List Nat) := (true, [([], []), ([0], [0]), ([1], [1]), ([2], [2]), ([], []), ([4], [4]), ([5], [5]), ([6], [6]), ([3, 7], [3, 7]), ([8], [8]), ([], []), ([10, 9, 0, 1, 2, 3, 4, 5, 6, 7, 8, 9, 10], [9, 10])])
def parser_parser_entry.B6 : List Nat := [0, 1, 3, 7, 0, 16, 48, 112, 255, 511, 0, 2047]
theorem parser_parser_entry.tab6 : rtab .any (opsOf Tryd.f76 6) = parser_parser_entry.T6 := by kernel_rfl
theorem parser_parser_entry.bits6 : waitsOk parser_parser_entry.T6.2 parser_parser_entry.B6 = true := by kernel_rfl
set_option maxHeartbeats 16000000 in
set_option maxRecDepth 100000 in
theorem parser_parser_entry.calls (EF : Nat → List S46 → Int → Int → Int → Int → Option (List S41 × Int × Int × Int)) (hEF : ∀ (k : Nat) (g : Nat) (s0_0 : List (S46)) (s0_1 : Int) (s0_2 : Int) (s0_3 : Int) (a1 : Int) (r1 : List (S41)) (r2 : Int) (r3 : Int) (r4 : Int) (w0 w : World) (hI : IsS69 w0 w g s0_0 s0_1 s0_2 s0_3) (hB : Below w0.heap.size w0 w) (h : EF k s0_0 s0_1 s0_2 s0_3 a1 = some (r1, r2, r3, r4)), Calls Tryd.prog 52 #[.pointer (some ⟨g, 0, none⟩), .int .i64 a1] w fun e w' => ∃ v0_ : Value, e = .returned (v0_) ∧ Kd.R k41 41 w' w.heap.size (fun _ => True) v0_ r1 ∧ IsS69 w0 w' g s0_0 r2 r3 r4 ∧ Below w0.heap.size w0 w' ∧ KeepBut w w' g none) (k : Nat) (g : Nat) (s0_0 : List (S46)) (s0_1 : Int) (s0_2 : Int) (s0_3 : Int) (a1 : Int) (r1 : ByteArray) (r2 : List (S46)) (r3 : Bool) (r4 : List (S41)) (r5 : Int) (r6 : Int) (r7 : Int) (r8 : Int) (w0 w : World) (hI : IsS69 w0 w g s0_0 s0_1 s0_2 s0_3) (hB : Below w0.heap.size w0 w) (h : parser_parser_entry.f EF k s0_0 s0_1 s0_2 s0_3 a1 = some (r1, r2, r3, r4, r5, r6, r7, r8)) :
  Calls Tryd.prog 76 #[.pointer (some ⟨g, 0, none⟩), .int .i64 a1] w fun e w' => ∃ v1_ v3_ : Value, e = .returned (.agg #[.string r1, v1_, .bool r3, v3_, .int .i64 r5]) ∧ Kd.R k46 46 w' w.heap.size (fun _ => True) v1_ r2 ∧ Kd.R k41 41 w' w.heap.size (fun k_ => some k_ ≠ (v1_ : Value).ownBlock) v3_ r4 ∧ IsS69 w0 w' g s0_0 r6 r7 r8 ∧ Below w0.heap.size w0 w' ∧ KeepBut w w' g none := by
 have hu41 := Tryd.underlying41
 have hu46 := Tryd.underlying46
 have HI0 := Aside0.mk hI
 have HK := Aside0.mk (KeepBut.refl w g none)
 have HL := Aside0.mk hB.size
 clear hI
 have HW0 := Aside0.mk hB.size
 have HB := Aside0.mk hB
 clear hB
 have H : (if 0 ≤ s0_1 then (if s0_1 < (s0_0.length : Int) then (parser_parser_entry.l0 EF k a1 s0_0 (wrap64 (s0_1 + 1)) s0_2 s0_3 ((rd_T46 s0_0 s0_1).f1) ([] : List (S46)) false ((rd_T46 s0_0 s0_1).f3)) else (none)) else (none)) = some (r1, r2, r3, r4, r5, r6, r7, r8) := h
 clear h
 by_cases c3 : 0 ≤ s0_1
 ·
  rw [if_pos c3] at H
  have c3b0 := decide_eq_true c3
  clear c3
  by_cases c4 : s0_1 < (s0_0.length : Int)
  ·
   rw [if_pos c4] at H
   have c4b0 := decide_eq_true c4
   clear c4
   have H' := Aside0.mk H
   clear H
   go_enter Tryd.func76, Tryd.ntmps76
   try go_wp2_with (first | ((with_reducible refine gate_dst (N := 4) rfl ?_); refine bx_ (N := 4) (cs := #[.string (⟨#[]⟩ : ByteArray), .slice none 0 0, .bool false, .slice none 0 0, .int .i64 0]) (t := 41) ?_; intro gb107 hg w5 hbox hb; refine cut8_ (IsS69.below (is69_0 HI0.out) hb) (KeepBut.trans (kk_ HK.out) (KeepBut.of_below hb g none) (.inl rfl)) (below_step (bl1_ HB.out (IsS69.ge HI0.out)) hb) (hbox) (kz_ hg (kk_ HK.out)) ((Nat.le_trans HW0.out (by rw [hg]; exact (keep_size (w := w) (g := g) (row := none) (kk_ HK.out)) : w.heap.size ≤ gb107) : w0.heap.size ≤ gb107)) ((by rw [hg]; exact Nat.ne_of_lt (IsS69.lt (show IsS69 w0 _ g s0_0 s0_1 s0_2 s0_3 from is69_0 HI0.out)) : g ≠ gb107)) ((by rw [hg]; exact Nat.ne_of_gt (IsS69.lt (show IsS69 w0 _ g s0_0 s0_1 s0_2 s0_3 from is69_0 HI0.out)) : gb107 ≠ g)) ?_; clear HI0 HK HB; intro HI0 HK HB BK107 GW107 GE107 NB0_107 NB107_0; clear hb hbox hg))
   refine cut4_ (blk_drew BK107.out) (IsS69.drew HI0.out) (keep_drew HK.out) (below_drew1 HB.out) ?_
   clear BK107 HI0 HK HB
   intro BK107 HI0 HK HB
   obtain ⟨ASz7_0, cSz7_0, HGz7, hgz7, HSz7_0⟩ := HI0.out
   have hcz7_0 := cellS69_0 HGz7
   have hcz7_1 := cellS69_1 HGz7
   have hcz7_2 := cellS69_2 HGz7
   have hcz7_3 := cellS69_3 HGz7
   have hfz7_1 := blk_frozen HGz7 1
   have hfz7_2 := blk_frozen HGz7 2
   have hfz7_3 := blk_frozen HGz7 3
   clear HGz7 hgz7
   have p108 : 0 ≤ (s0_1 : Int) := dt_
   have q108 : s0_1 < (s0_0.length : Int) := dt_
   obtain ⟨ad108, e108, hx108_0, hx108_1, hx108_2, hx108_3⟩ := at_T46 HSz7_0 s0_1 p108 q108
   have hw108_3 := hx108_3
   have hw108_2 := hx108_2
   have hw108_1 := hx108_1
   have hw108_0 := hx108_0
   cases e108
   replace hx108_0 := pw_cell_below HB.out hx108_0
   replace hx108_1 := pw_cell_below HB.out hx108_1
   replace hx108_2 := pw_cell_below HB.out hx108_2
   replace hx108_3 := pw_cell_below HB.out hx108_3
   replace p108 := eq_true p108
   replace q108 := eq_true q108
   have p109 : 0 ≤ (s0_1 : Int) := dt_
   have q109 : s0_1 < (s0_0.length : Int) := dt_
   obtain ⟨ad109, e109, hx109_0, hx109_1, hx109_2, hx109_3⟩ := at_T46 HSz7_0 s0_1 p109 q109
   have hw109_3 := hx109_3
   have hw109_2 := hx109_2
   have hw109_1 := hx109_1
   have hw109_0 := hx109_0
   obtain rfl : ad108 = ad109 := (by injection e109)
   replace hx109_0 := pw_cell_below HB.out hx109_0
   replace hx109_1 := pw_cell_below HB.out hx109_1
   replace hx109_2 := pw_cell_below HB.out hx109_2
   replace hx109_3 := pw_cell_below HB.out hx109_3
   replace p109 := eq_true p109
   replace q109 := eq_true q109
   refine start_ (n := 25) (S := fun w' => w'.cell? ⟨g, 0, none⟩ = some (.slice (some ad108) (s0_0).length cSz7_0) ∧ w'.cell? ⟨g, 1, none⟩ = some (.int .i64 s0_1) ∧ w'.cell? ⟨g, 2, none⟩ = some (.int .i64 s0_2) ∧ w'.cell? ⟨g, 3, none⟩ = some (.int .i64 s0_3) ∧ w'.cell? (ad108.add ((s0_1).toNat * 4)) = some (.int .i64 ((rd_T46 s0_0 s0_1).f0)) ∧ w'.cell? ⟨(ad108.add ((s0_1).toNat * 4)).block, (ad108.add ((s0_1).toNat * 4)).off + 1, none⟩ = some (.string ((rd_T46 s0_0 s0_1).f1)) ∧ w'.cell? ⟨(ad108.add ((s0_1).toNat * 4)).block, (ad108.add ((s0_1).toNat * 4)).off + 2, none⟩ = some (.int .i64 ((rd_T46 s0_0 s0_1).f2)) ∧ w'.cell? ⟨(ad108.add ((s0_1).toNat * 4)).block, (ad108.add ((s0_1).toNat * 4)).off + 3, none⟩ = some (.int .i64 ((rd_T46 s0_0 s0_1).f3)) ∧ w'.cell? (ad108.add ((s0_1).toNat * 4)) = some (.int .i64 ((rd_T46 s0_0 s0_1).f0)) ∧ w'.cell? ⟨(ad108.add ((s0_1).toNat * 4)).block, (ad108.add ((s0_1).toNat * 4)).off + 1, none⟩ = some (.string ((rd_T46 s0_0 s0_1).f1)) ∧ w'.cell? ⟨(ad108.add ((s0_1).toNat * 4)).block, (ad108.add ((s0_1).toNat * 4)).off + 2, none⟩ = some (.int .i64 ((rd_T46 s0_0 s0_1).f2)) ∧ w'.cell? ⟨(ad108.add ((s0_1).toNat * 4)).block, (ad108.add ((s0_1).toNat * 4)).off + 3, none⟩ = some (.int .i64 ((rd_T46 s0_0 s0_1).f3))) (ds := []) #[false, false, false, false, false, false, false, false, false, false, false, false, false, false, false, false, false, false, false, false, false, false, false, false, false] (by kernel_rfl) rfl rfl ⟨hcz7_0, hcz7_1, hcz7_2, hcz7_3, (pw_cell_below HB.out hw108_0), (pw_cell_below HB.out hw108_1), (pw_cell_below HB.out hw108_2), (pw_cell_below HB.out hw108_3), (pw_cell_below HB.out hw109_0), (pw_cell_below HB.out hw109_1), (pw_cell_below HB.out hw109_2), (pw_cell_below HB.out hw109_3)⟩ (fun hHeld => ?_); refine with_tabW parser_parser_entry.tab1 parser_parser_entry.bits1 (fun HT_ HW_ => ?_)
   generalize w5.drew = w6 at BK107 HI0 HK HB hx108_0 hx108_1 hx108_2 hx108_3 hx109_0 hx109_1 hx109_2 hx109_3 hHeld ⊢
   refine pr_ (i := 0) (N := some 7) #[true, false, false, false, false, false, false, false, false, false, false, false, false, false, false, false, false, false, false, false, false, false, false, false, false] (any_of HT_.out (by kernel_rfl)) ?_
   refine pr_ (i := 1) (N := some 8) #[true, true, false, false, false, false, false, false, false, false, false, false, false, false, false, false, false, false, false, false, false, false, false, false, false] (any_of HT_.out (by kernel_rfl)) ?_
   refine pr_ (i := 2) (N := some 9) #[true, true, true, false, false, false, false, false, false, false, false, false, false, false, false, false, false, false, false, false, false, false, false, false, false] (any_of HT_.out (by kernel_rfl)) ?_
   refine pr_ (i := 4) (N := some 11) #[true, true, true, false, true, false, false, false, false, false, false, false, false, false, false, false, false, false, false, false, false, false, false, false, false] (any_of HT_.out (by kernel_rfl)) ?_
   refine pr_ (i := 5) (N := some 12) #[true, true, true, false, true, true, false, false, false, false, false, false, false, false, false, false, false, false, false, false, false, false, false, false, false] (any_of HT_.out (by kernel_rfl)) ?_
   refine pr_ (i := 6) (N := some 13) #[true, true, true, false, true, true, true, false, false, false, false, false, false, false, false, false, false, false, false, false, false, false, false, false, false] (any_of HT_.out (by kernel_rfl)) ?_
   refine pr_ (i := 11) (N := some 18) #[true, true, true, false, true, true, true, false, false, false, false, true, false, false, false, false, false, false, false, false, false, false, false, false, false] (any_of HT_.out (by kernel_rfl)) ?_
   refine pr_ (i := 12) (N := some 19) #[true, true, true, false, true, true, true, false, false, false, false, true, true, false, false, false, false, false, false, false, false, false, false, false, false] (any_of HT_.out (by kernel_rfl)) ?_
   refine pr_ (i := 13) (N := some 20) #[true, true, true, false, true, true, true, false, false, false, false, true, true, true, false, false, false, false, false, false, false, false, false, false, false] (any_of HT_.out (by kernel_rfl)) ?_
   refine pr_ (i := 15) (N := some 22) #[true, true, true, false, true, true, true, false, false, false, false, true, true, true, false, true, false, false, false, false, false, false, false, false, false] (any_of HT_.out (by kernel_rfl)) ?_
   refine pr_ (i := 16) (N := some 23) #[true, true, true, false, true, true, true, false, false, false, false, true, true, true, false, true, true, false, false, false, false, false, false, false, false] (any_of HT_.out (by kernel_rfl)) ?_
   refine pr_ (i := 17) (N := some 24) #[true, true, true, false, true, true, true, false, false, false, false, true, true, true, false, true, true, true, false, false, false, false, false, false, false] (any_of HT_.out (by kernel_rfl)) ?_
   refine take_ (i := 3) (N := some 10) (v := ?_) (a' := ?_) #[true, true, true, true, true, true, true, false, false, false, false, true, true, true, false, true, true, true, false, false, false, false, false, false, false] rfl rfl (take_ofW HT_.out HW_.out (by kernel_rfl)) (fun _ _ _ h => h) (Or.inl ⟨by rfl, ?_⟩) hHeld ?_ ?_
   rotate_left
   ·
    rintro w' ⟨s0, s1, s2, s3, s4, s5, s6, s7, s8, s9, s10, s11⟩
    go_simp
    with_reducible rfl
   rotate_left
   ·
    simp only [Act.put, List.setIfInBounds_toArray, List.set_cons_zero, List.set_cons_succ, i64_w, i32_w]
    rfl
   refine take_ (i := 7) (N := some 14) (v := ?_) (a' := ?_) #[true, true, true, true, true, true, true, true, false, false, false, true, true, true, false, true, true, true, false, false, false, false, false, false, false] rfl rfl (take_ofW HT_.out HW_.out (by kernel_rfl)) (fun _ _ _ h => h) (Or.inl ⟨by rfl, ?_⟩) hHeld ?_ ?_
   rotate_left
   ·
    rintro w' ⟨s0, s1, s2, s3, s4, s5, s6, s7, s8, s9, s10, s11⟩
    go_simp
    with_reducible rfl
   rotate_left
   ·
    simp only [Act.put, List.setIfInBounds_toArray, List.set_cons_zero, List.set_cons_succ, i64_w, i32_w]
    rfl
   refine pr_ (i := 8) (N := some 15) #[true, true, true, true, true, true, true, true, true, false, false, true, true, true, false, true, true, true, false, false, false, false, false, false, false] (any_of HT_.out (by kernel_rfl)) ?_
   refine pr_ (i := 9) (N := some 16) #[true, true, true, true, true, true, true, true, true, true, false, true, true, true, false, true, true, true, false, false, false, false, false, false, false] (any_of HT_.out (by kernel_rfl)) ?_
   refine take_ (i := 10) (N := some 17) (v := ?_) (a' := ?_) #[true, true, true, true, true, true, true, true, true, true, true, true, true, true, false, true, true, true, false, false, false, false, false, false, false] rfl rfl (take_ofW HT_.out HW_.out (by kernel_rfl)) (fun _ _ _ h => h) (Or.inl ⟨by rfl, ?_⟩) hHeld ?_ ?_
   rotate_left
   ·
    rintro w' ⟨s0, s1, s2, s3, s4, s5, s6, s7, s8, s9, s10, s11⟩
    go_simp
    with_reducible rfl
   rotate_left
   ·
    simp only [Act.put, List.setIfInBounds_toArray, List.set_cons_zero, List.set_cons_succ, i64_w, i32_w]
    rfl
   refine take_ (i := 14) (N := some 21) (v := ?_) (a' := ?_) #[true, true, true, true, true, true, true, true, true, true, true, true, true, true, true, true, true, true, false, false, false, false, false, false, false] rfl rfl (take_ofW HT_.out HW_.out (by kernel_rfl)) (fun _ _ _ h => h) (Or.inl ⟨by rfl, ?_⟩) hHeld ?_ ?_
   rotate_left
   ·
    rintro w' ⟨s0, s1, s2, s3, s4, s5, s6, s7, s8, s9, s10, s11⟩
    go_simp
    with_reducible rfl
   rotate_left
   ·
    simp only [Act.put, List.setIfInBounds_toArray, List.set_cons_zero, List.set_cons_succ, i64_w, i32_w]
    rfl
   refine take_ (i := 18) (N := some 25) (v := ?_) (a' := ?_) #[true, true, true, true, true, true, true, true, true, true, true, true, true, true, true, true, true, true, true, false, false, false, false, false, false] rfl rfl (take_ofW HT_.out HW_.out (by kernel_rfl)) (fun _ _ _ h => h) (Or.inl ⟨by rfl, ?_⟩) hHeld ?_ ?_
   rotate_left
   ·
    rintro w' ⟨s0, s1, s2, s3, s4, s5, s6, s7, s8, s9, s10, s11⟩
    go_simp
    with_reducible rfl
   rotate_left
   ·
    simp only [Act.put, List.setIfInBounds_toArray, List.set_cons_zero, List.set_cons_succ, i64_w, i32_w]
    rfl
   refine pr_ (i := 19) (N := some 26) #[true, true, true, true, true, true, true, true, true, true, true, true, true, true, true, true, true, true, true, true, false, false, false, false, false] (any_of HT_.out (by kernel_rfl)) ?_
   refine pr_ (i := 20) (N := some 27) #[true, true, true, true, true, true, true, true, true, true, true, true, true, true, true, true, true, true, true, true, true, false, false, false, false] (any_of HT_.out (by kernel_rfl)) ?_
   refine take_ (i := 21) (N := some 28) (v := ?_) (a' := ?_) #[true, true, true, true, true, true, true, true, true, true, true, true, true, true, true, true, true, true, true, true, true, true, false, false, false] rfl rfl (take_ofW HT_.out HW_.out (by kernel_rfl)) (fun _ _ _ h => h) (Or.inl ⟨by rfl, ?_⟩) hHeld ?_ ?_
   rotate_left
   ·
    rintro w' ⟨s0, s1, s2, s3, s4, s5, s6, s7, s8, s9, s10, s11⟩
    go_simp
    with_reducible rfl
   rotate_left
   ·
    simp only [Act.put, List.setIfInBounds_toArray, List.set_cons_zero, List.set_cons_succ, i64_w, i32_w]
    rfl
   refine pr_ (i := 22) (N := some 29) #[true, true, true, true, true, true, true, true, true, true, true, true, true, true, true, true, true, true, true, true, true, true, true, false, false] (any_of HT_.out (by kernel_rfl)) ?_
   refine one_ (i := 23) (N := some 5) #[true, true, true, true, true, true, true, true, true, true, true, true, true, true, true, true, true, true, true, true, true, true, true, true, false] rfl rfl (one_of HT_.out (by kernel_rfl)) (by decide) (fun K hK => ?_)
   refine box_step ?hg (N := 5) ?hd (cs := #[.string (⟨#[]⟩ : ByteArray), .slice none 0 0, .bool false, .slice none 0 0, .int .i64 0]) (t := 41) ?hr ?_; (case hd => rfl); (case hg => rfl); (case hr => first | (go_simp; done) | (go_simp; rfl))
   intro gb110 hg w8 hbox hb
   have HS0_ := (hb.cell (World.block_lt_of_cell? _ _ (hHeld.1))).trans (hHeld.1)
   have HS1_ := (hb.cell (World.block_lt_of_cell? _ _ (hHeld.2.1))).trans (hHeld.2.1)
   have HS2_ := (hb.cell (World.block_lt_of_cell? _ _ (hHeld.2.2.1))).trans (hHeld.2.2.1)
   have HS3_ := (hb.cell (World.block_lt_of_cell? _ _ (hHeld.2.2.2.1))).trans (hHeld.2.2.2.1)
   refine cut11_ (IsS69.below (is69_1 HI0.out NB0_107.out) hb) (bb_ BK107.out hb) (KeepBut.trans (kk1_ HK.out GW107.out) (KeepBut.of_below hb g none) (.inl rfl)) (below_step (bl2_ HB.out (IsS69.ge HI0.out) GE107.out) hb) (hbox) (kz_ hg (kk1_ HK.out GW107.out)) ((Nat.le_trans HW0.out (by rw [hg]; exact (keep_size (w := w) (g := g) (row := none) (kk1_ HK.out GW107.out)) : w.heap.size ≤ gb110) : w0.heap.size ≤ gb110)) (nl_ hg BK107.out) (ng_ hg BK107.out) ((by rw [hg]; exact Nat.ne_of_lt (IsS69.lt (show IsS69 w0 _ g s0_0 s0_1 s0_2 s0_3 from is69_1 HI0.out NB0_107.out)) : g ≠ gb110)) ((by rw [hg]; exact Nat.ne_of_gt (IsS69.lt (show IsS69 w0 _ g s0_0 s0_1 s0_2 s0_3 from is69_1 HI0.out NB0_107.out)) : gb110 ≠ g)) ?_
   clear HI0 BK107 HK HB
   intro HI0 BK107 HK HB BK110 GW110 GE110 NB107_110 NB110_107 NB0_110 NB110_0
   clear hb hbox hg
   refine hK.out _ _ ⟨HS0_, HS1_, HS2_, HS3_, (pw_cell_below HB.out hw108_0), (pw_cell_below HB.out hw108_1), (pw_cell_below HB.out hw108_2), (pw_cell_below HB.out hw108_3), (pw_cell_below HB.out hw109_0), (pw_cell_below HB.out hw109_1), (pw_cell_below HB.out hw109_2), (pw_cell_below HB.out hw109_3)⟩ (fun hHeld => ?_)
   clear hK K
   refine norm_ (a' := ?_) ?_ ?_
   rotate_left
   ·
    show Act.put _ (some 5) _ = _
    simp only [Act.put, List.setIfInBounds_toArray, List.set_cons_zero, List.set_cons_succ, i64_w, i32_w]
    rfl
   refine one_ (i := 24) (N := none) #[true, true, true, true, true, true, true, true, true, true, true, true, true, true, true, true, true, true, true, true, true, true, true, true, true] rfl rfl (one_of HT_.out (by kernel_rfl)) (by decide) (fun K hK => ?_)
   have hs9 : w8.cell? ⟨gb110, 0, none⟩ = some (.string (⟨#[]⟩ : ByteArray)) := (blk_cell BK110.out 0).trans rfl
   have hfs9 := blk_frozen BK110.out 0
   have hns9_0 := NB107_110.out
   have hms9_0 := NB110_107.out
   have hs10 : w8.cell? ⟨gb110, 1, none⟩ = some (.slice none 0 0) := (blk_cell BK110.out 1).trans rfl
   have hfs10 := blk_frozen BK110.out 1
   have hns10_0 := NB107_110.out
   have hms10_0 := NB110_107.out
   have hs11 : w8.cell? ⟨gb110, 2, none⟩ = some (.bool false) := (blk_cell BK110.out 2).trans rfl
   have hfs11 := blk_frozen BK110.out 2
   have hns11_0 := NB107_110.out
   have hms11_0 := NB110_107.out
   have hs12 : w8.cell? ⟨gb110, 3, none⟩ = some (.slice none 0 0) := (blk_cell BK110.out 3).trans rfl
   have hfs12 := blk_frozen BK110.out 3
   have hns12_0 := NB107_110.out
   have hms12_0 := NB110_107.out
   have hs13 : w8.cell? ⟨gb110, 4, none⟩ = some (.int .i64 0) := (blk_cell BK110.out 4).trans rfl
   have hfs13 := blk_frozen BK110.out 4
   have hns13_0 := NB107_110.out
   have hms13_0 := NB110_107.out
   refine skip_ (w1 := ?_) (by rfl) rfl ?_ ?_
   rotate_left
   ·
    go_simp
    rfl
   refine hK.out _ _ ⟨(cf5_ gb110 (fs_ NB0_110.out) hHeld.1), (cf5_ gb110 (fs_ NB0_110.out) hHeld.2.1), (cf5_ gb110 (fs_ NB0_110.out) hHeld.2.2.1), (cf5_ gb110 (fs_ NB0_110.out) hHeld.2.2.2.1), (cf5_ gb110 (fr_ hw108_0 (Nat.le_trans HL.out GW110.out)) hHeld.2.2.2.2.1), (cf5_ gb110 (fr_ hw108_1 (Nat.le_trans HL.out GW110.out)) hHeld.2.2.2.2.2.1), (cf5_ gb110 (fr_ hw108_2 (Nat.le_trans HL.out GW110.out)) hHeld.2.2.2.2.2.2.1), (cf5_ gb110 (fr_ hw108_3 (Nat.le_trans HL.out GW110.out)) hHeld.2.2.2.2.2.2.2.1), (cf5_ gb110 (fr_ hw109_0 (Nat.le_trans HL.out GW110.out)) hHeld.2.2.2.2.2.2.2.2.1), (cf5_ gb110 (fr_ hw109_1 (Nat.le_trans HL.out GW110.out)) hHeld.2.2.2.2.2.2.2.2.2.1), (cf5_ gb110 (fr_ hw109_2 (Nat.le_trans HL.out GW110.out)) hHeld.2.2.2.2.2.2.2.2.2.2.1), (cf5_ gb110 (fr_ hw109_3 (Nat.le_trans HL.out GW110.out)) hHeld.2.2.2.2.2.2.2.2.2.2.2)⟩ (fun hHeld => ?_)
   clear hK K
   refine done_ (done_of HT_.out (by kernel_rfl)) ?_
   obtain ⟨ASz14_0, cSz14_0, HGz14, hgz14, HSz14_0⟩ := HI0.out
   have hcz14_0 := cellS69_0 HGz14
   have hcz14_1 := cellS69_1 HGz14
   have hcz14_2 := cellS69_2 HGz14
   have hcz14_3 := cellS69_3 HGz14
   have hfz14_1 := blk_frozen HGz14 1
   have hfz14_2 := blk_frozen HGz14 2
   have hfz14_3 := blk_frozen HGz14 3
   clear HGz14 hgz14
   try go_wp2
   go_loopg [] k (fun kq w' => ∃ (x1001_1 : Int) (x111001_1 : List (S46)) (u111001 : Value), Aside0 (parser_parser_entry.l0 EF kq a1 s0_0 x1001_1 s0_2 s0_3 ((rd_T46 s0_0 s0_1).f1) x111001_1 false ((rd_T46 s0_0 s0_1).f3) = some (r1, r2, r3, r4, r5, r6, r7, r8)) ∧ Aside0 (kq ≤ k) ∧ Aside0 (Kd.R k46 46 w' w.heap.size (fun _ => True) u111001 x111001_1) ∧ Aside0 (w'.heap[gb107]? = some (.cells #[.string (⟨#[]⟩ : ByteArray), (.slice none 0 0), .bool false, (.slice none 0 0), .int .i64 0] 41 (0, 0))) ∧ Aside0 (w'.heap[gb110]? = some (.cells #[.string ((rd_T46 s0_0 s0_1).f1), u111001, .bool false, (.slice none 0 0), .int .i64 ((rd_T46 s0_0 s0_1).f3)] 41 (0, 0))) ∧ Aside0 (IsS69 w0 w' g s0_0 x1001_1 s0_2 s0_3) ∧ Aside0 (KeepBut w w' g none) ∧ Aside0 (Below w0.heap.size w0 w'))
   case atStart => exact ⟨(wrap64 (s0_1 + 1)), (([] : List (S46))), (.slice none 0 0), H', ⟨Nat.le_refl _⟩, ⟨ni_⟩, ⟨by exact far1_ (far5_ (bk_ BK107.out) NB107_110.out) NB107_0.out⟩, ⟨by exact far1_ (put5_ (bk_ BK110.out)) NB110_0.out⟩, ⟨(by exact IsS69.set_1 (IsS69.far (IsS69.far (IsS69.far (IsS69.far (IsS69.far HI0.out NB0_110.out _) NB0_110.out _) NB0_110.out _) NB0_110.out _) NB0_110.out _) _)⟩, ⟨by repeat (first | (with_reducible first | exact HK.out | apply KeepBut.set_ | apply keep_drewN | apply keep_drew | apply keep_alloc | refine keep_far ?_ GW107.out _ | refine keep_far ?_ GW110.out _) | exact HK.out)⟩, ⟨bl3_ HB.out (IsS69.ge HI0.out) GE107.out GE110.out⟩⟩
   case round =>
    clear H'
    try clear p1
    try clear q1
    try clear hx1
    try clear p2
    try clear c3
    try clear c3b0
    try clear c4
    try clear c4b0
    try clear p6
    try clear c7
    try clear p10
    try clear q10
    try clear hx10
    try clear hcz14_0
    try clear hcz14_1
    try clear hcz14_2
    try clear hcz14_3
    try clear hcz7_0
    try clear hcz7_1
    try clear hcz7_2
    try clear hcz7_3
    try clear hfz14_1
    try clear hfz14_2
    try clear hfz14_3
    try clear hfz7_1
    try clear hfz7_2
    try clear hfz7_3
    try clear hx108_0
    try clear hx108_1
    try clear hx108_2
    try clear hx108_3
    try clear hx109_0
    try clear hx109_1
    try clear hx109_2
    try clear hx109_3
    try clear p108
    try clear p109
    try clear q108
    try clear q109
    obtain ⟨x1001_1, x111001_1, u111001, HA, HK1, HO_111001, BK107, BK110, HI0, HK, HB⟩ := hrel
    cases gk with
    | zero => exact absurd HA.out (by simp [parser_parser_entry.l0])
    | succ k1 =>
     have H := HA.out
     clear HA
     simp only [parser_parser_entry.l0] at H
     by_cases c15 : 0 ≤ x1001_1
     ·
      rw [if_pos c15] at H
      have c15b0 := decide_eq_true c15
      clear c15
      by_cases c16 : x1001_1 < (s0_0.length : Int)
      ·
       rw [if_pos c16] at H
       have c16b0 := decide_eq_true c16
       clear c16
       replace H := Option.bind_eq_some_iff.mp H
       obtain ⟨t112, A170, H⟩ := H
       (try dsimp only at H)
       have A17 := Aside0.mk A170
       clear A170
       by_cases c18 : t112 = true
       ·
        subst c18
        have H1 : (if x111001_1.length < 3518437208883 then (parser_parser_entry.l0 EF k1 a1 s0_0 (wrap64 (x1001_1 + 1)) s0_2 s0_3 ((rd_T46 s0_0 s0_1).f1) (x111001_1 ++ [(⟨(rd_T46 s0_0 x1001_1).f0, (rd_T46 s0_0 x1001_1).f1, (rd_T46 s0_0 x1001_1).f2, (rd_T46 s0_0 x1001_1).f3⟩ : S46)]) false ((rd_T46 s0_0 s0_1).f3)) else (none)) = some (r1, r2, r3, r4, r5, r6, r7, r8) := by rw [if_pos rfl] at H; exact H
        clear H
        have H := H1
        clear H1
        by_cases c19 : x111001_1.length < 3518437208883
        ·
         rw [if_pos c19] at H
         have LMc19 := Aside0.mk c19
         clear c19
         obtain ⟨y114, hy114⟩ : ∃ y_ : List (S46), y_ = (x111001_1 ++ [(⟨(rd_T46 s0_0 x1001_1).f0, (rd_T46 s0_0 x1001_1).f1, (rd_T46 s0_0 x1001_1).f2, (rd_T46 s0_0 x1001_1).f3⟩ : S46)]) := ⟨_, rfl⟩
         replace H : (parser_parser_entry.l0 EF k1 a1 s0_0 (wrap64 (x1001_1 + 1)) s0_2 s0_3 ((rd_T46 s0_0 s0_1).f1) y114 false ((rd_T46 s0_0 s0_1).f3)) = some (r1, r2, r3, r4, r5, r6, r7, r8) := by first | (rw [hy114]; with_reducible exact H) | (have H2_ := (Option.bind_some _ _).symm.trans H; rw [hy114]; with_reducible exact H2_) | (have H2_ := (Option.bind_some _ _).symm.trans H; with_reducible exact H2_) | with_reducible exact H | (rw [hy114]; exact H) | exact H
         have Ny114 := Aside0.mk hy114
         clear hy114
         have H' := Aside0.mk H
         clear H
         try go_wp2
         refine cut6_ (Kd.R_drew HO_111001.out) (blk_drew BK107.out) (blk_drew BK110.out) (IsS69.drew HI0.out) (keep_drew HK.out) (below_drew1 HB.out) ?_
         clear HO_111001 BK107 BK110 HI0 HK HB
         intro HO_111001 BK107 BK110 HI0 HK HB
         obtain ⟨ASz21_0, cSz21_0, HGz21, hgz21, HSz21_0⟩ := HI0.out
         have hcz21_0 := cellS69_0 HGz21
         have hcz21_1 := cellS69_1 HGz21
         have hcz21_2 := cellS69_2 HGz21
         have hcz21_3 := cellS69_3 HGz21
         have hfz21_1 := blk_frozen HGz21 1
         have hfz21_2 := blk_frozen HGz21 2
         have hfz21_3 := blk_frozen HGz21 3
         clear HGz21 hgz21
         have p111 : 0 ≤ (x1001_1 : Int) := dt_
         have q111 : x1001_1 < (s0_0.length : Int) := dt_
         obtain ⟨ad111, e111, hx111_0, hx111_1, hx111_2, hx111_3⟩ := at_T46 HSz21_0 x1001_1 p111 q111
         have hw111_3 := hx111_3
         have hw111_2 := hx111_2
         have hw111_1 := hx111_1
         have hw111_0 := hx111_0
         cases e111
         replace hx111_0 := pw_cell_below HB.out hx111_0
         replace hx111_1 := pw_cell_below HB.out hx111_1
         replace hx111_2 := pw_cell_below HB.out hx111_2
         replace hx111_3 := pw_cell_below HB.out hx111_3
         replace p111 := eq_true p111
         replace q111 := eq_true q111
         refine start_ (n := 11) (S := fun w' => w'.cell? ⟨g, 0, none⟩ = some (.slice (some ad111) (s0_0).length cSz21_0) ∧ w'.cell? ⟨g, 1, none⟩ = some (.int .i64 x1001_1) ∧ w'.cell? ⟨g, 2, none⟩ = some (.int .i64 s0_2) ∧ w'.cell? ⟨g, 3, none⟩ = some (.int .i64 s0_3) ∧ w'.cell? (ad111.add ((x1001_1).toNat * 4)) = some (.int .i64 ((rd_T46 s0_0 x1001_1).f0)) ∧ w'.cell? ⟨(ad111.add ((x1001_1).toNat * 4)).block, (ad111.add ((x1001_1).toNat * 4)).off + 1, none⟩ = some (.string ((rd_T46 s0_0 x1001_1).f1)) ∧ w'.cell? ⟨(ad111.add ((x1001_1).toNat * 4)).block, (ad111.add ((x1001_1).toNat * 4)).off + 2, none⟩ = some (.int .i64 ((rd_T46 s0_0 x1001_1).f2)) ∧ w'.cell? ⟨(ad111.add ((x1001_1).toNat * 4)).block, (ad111.add ((x1001_1).toNat * 4)).off + 3, none⟩ = some (.int .i64 ((rd_T46 s0_0 x1001_1).f3))) (ds := []) #[false, false, false, false, false, false, false, false, false, false, false] (by kernel_rfl) rfl rfl ⟨hcz21_0, hcz21_1, hcz21_2, hcz21_3, (pw_cell_below HB.out hw111_0), (pw_cell_below HB.out hw111_1), (pw_cell_below HB.out hw111_2), (pw_cell_below HB.out hw111_3)⟩ (fun hHeld => ?_); refine with_tabW parser_parser_entry.tab3 parser_parser_entry.bits3 (fun HT_ HW_ => ?_)
         generalize wr.drew = w20 at HO_111001 BK107 BK110 HI0 HK HB hx111_0 hx111_1 hx111_2 hx111_3 hHeld ⊢
         refine pr_ (i := 0) (N := some 37) #[true, false, false, false, false, false, false, false, false, false, false] (any_of HT_.out (by kernel_rfl)) ?_
         refine pr_ (i := 1) (N := some 38) #[true, true, false, false, false, false, false, false, false, false, false] (any_of HT_.out (by kernel_rfl)) ?_
         refine pr_ (i := 2) (N := some 39) #[true, true, true, false, false, false, false, false, false, false, false] (any_of HT_.out (by kernel_rfl)) ?_
         refine pr_ (i := 4) (N := some 41) #[true, true, true, false, true, false, false, false, false, false, false] (any_of HT_.out (by kernel_rfl)) ?_
         refine pr_ (i := 5) (N := some 42) #[true, true, true, false, true, true, false, false, false, false, false] (any_of HT_.out (by kernel_rfl)) ?_
         refine pr_ (i := 6) (N := some 43) #[true, true, true, false, true, true, true, false, false, false, false] (any_of HT_.out (by kernel_rfl)) ?_
         refine take_ (i := 3) (N := some 40) (v := ?_) (a' := ?_) #[true, true, true, true, true, true, true, false, false, false, false] rfl rfl (take_ofW HT_.out HW_.out (by kernel_rfl)) (fun _ _ _ h => h) (Or.inl ⟨by rfl, ?_⟩) hHeld ?_ ?_
         rotate_left
         ·
          rintro w' ⟨s0, s1, s2, s3, s4, s5, s6, s7⟩
          go_simp
          with_reducible rfl
         rotate_left
         ·
          simp only [Act.put, List.setIfInBounds_toArray, List.set_cons_zero, List.set_cons_succ, i64_w, i32_w]
          rfl
         refine take_ (i := 7) (N := some 44) (v := ?_) (a' := ?_) #[true, true, true, true, true, true, true, true, false, false, false] rfl rfl (take_ofW HT_.out HW_.out (by kernel_rfl)) (fun _ _ _ h => h) (Or.inl ⟨by rfl, ?_⟩) hHeld ?_ ?_
         rotate_left
         ·
          rintro w' ⟨s0, s1, s2, s3, s4, s5, s6, s7⟩
          go_simp
          with_reducible rfl
         rotate_left
         ·
          simp only [Act.put, List.setIfInBounds_toArray, List.set_cons_zero, List.set_cons_succ, i64_w, i32_w]
          rfl
         refine pr_ (i := 8) (N := some 45) #[true, true, true, true, true, true, true, true, true, false, false] (any_of HT_.out (by kernel_rfl)) ?_
         refine take_ (i := 9) (N := some 46) (v := ?_) (a' := ?_) #[true, true, true, true, true, true, true, true, true, true, false] rfl rfl (take_ofW HT_.out HW_.out (by kernel_rfl)) (fun _ _ _ h => h) (Or.inl ⟨by rfl, ?_⟩) hHeld ?_ ?_
         rotate_left
         ·
          rintro w' ⟨s0, s1, s2, s3, s4, s5, s6, s7⟩
          go_simp
          with_reducible rfl
         rotate_left
         ·
          simp only [Act.put, List.setIfInBounds_toArray, List.set_cons_zero, List.set_cons_succ, i64_w, i32_w]
          rfl
         refine one_ (i := 10) (N := some 47) #[true, true, true, true, true, true, true, true, true, true, true] rfl rfl (one_of HT_.out (by kernel_rfl)) (by decide) (fun K hK => ?_)
         refine goes_ Tryd.func85 (by kernel_rfl) rfl #[.agg #[.int .i64 ((rd_T46 s0_0 x1001_1).f0), .string ((rd_T46 s0_0 x1001_1).f1), .int .i64 ((rd_T46 s0_0 x1001_1).f2), .int .i64 ((rd_T46 s0_0 x1001_1).f3)]] (by rfl) rfl rfl ga_ ?_
         with_reducible refine (parser_atom.calls ((rd_T46 s0_0 x1001_1).f0) ((rd_T46 s0_0 x1001_1).f1) ((rd_T46 s0_0 x1001_1).f2) ((rd_T46 s0_0 x1001_1).f3) true _ A17.out).mono ?_
         rintro e w22 ⟨rfl, hb⟩
         have HS0_ := (hb.cell (World.block_lt_of_cell? _ _ (hHeld.1))).trans (hHeld.1)
         have HS1_ := (hb.cell (World.block_lt_of_cell? _ _ (hHeld.2.1))).trans (hHeld.2.1)
         have HS2_ := (hb.cell (World.block_lt_of_cell? _ _ (hHeld.2.2.1))).trans (hHeld.2.2.1)
         have HS3_ := (hb.cell (World.block_lt_of_cell? _ _ (hHeld.2.2.2.1))).trans (hHeld.2.2.2.1)
         refine ⟨_, rfl, ?_⟩
         refine cut6_ (Kd.R_below (rR_ HO_111001.out) hb) (bb_ BK107.out hb) (bb_ BK110.out hb) (IsS69.below (is69_2 HI0.out NB0_107.out NB0_110.out) hb) (KeepBut.trans (kk2_ HK.out GW107.out GW110.out) (KeepBut.of_below hb g none) (.inl rfl)) (below_step (bl3_ HB.out (IsS69.ge HI0.out) GE107.out GE110.out) hb) ?_
         clear HO_111001 BK107 BK110 HI0 HK HB
         intro HO_111001 BK107 BK110 HI0 HK HB
         (try clear hb)
         (try clear hb2)
         (try clear hk)
         (try clear hi)
         refine hK.out _ _ ⟨HS0_, HS1_, HS2_, HS3_, (pw_cell_below HB.out hw111_0), (pw_cell_below HB.out hw111_1), (pw_cell_below HB.out hw111_2), (pw_cell_below HB.out hw111_3)⟩ (fun hHeld => ?_)
         clear hK K
         refine norm_ (a' := ?_) ?_ ?_
         rotate_left
         ·
          show Act.put _ (some 47) _ = _
          simp only [Act.put, List.setIfInBounds_toArray, List.set_cons_zero, List.set_cons_succ, i64_w, i32_w]
          rfl
         refine done_ (done_of HT_.out (by kernel_rfl)) ?_
         try go_wp2
         refine cut6_ (Kd.R_drew HO_111001.out) (blk_drew BK107.out) (blk_drew BK110.out) (IsS69.drew HI0.out) (keep_drew HK.out) (below_drew1 HB.out) ?_
         clear HO_111001 BK107 BK110 HI0 HK HB
         intro HO_111001 BK107 BK110 HI0 HK HB
         obtain ⟨ASz24_0, cSz24_0, HGz24, hgz24, HSz24_0⟩ := HI0.out
         have hcz24_0 := cellS69_0 HGz24
         have hcz24_1 := cellS69_1 HGz24
         have hcz24_2 := cellS69_2 HGz24
         have hcz24_3 := cellS69_3 HGz24
         have hfz24_1 := blk_frozen HGz24 1
         have hfz24_2 := blk_frozen HGz24 2
         have hfz24_3 := blk_frozen HGz24 3
         clear HGz24 hgz24
         have p113 : 0 ≤ (x1001_1 : Int) := dt_
         have q113 : x1001_1 < (s0_0.length : Int) := dt_
         obtain ⟨ad113, e113, hx113_0, hx113_1, hx113_2, hx113_3⟩ := at_T46 HSz24_0 x1001_1 p113 q113
         have hw113_3 := hx113_3
         have hw113_2 := hx113_2
         have hw113_1 := hx113_1
         have hw113_0 := hx113_0
         cases e113
         replace hx113_0 := pw_cell_below HB.out hx113_0
         replace hx113_1 := pw_cell_below HB.out hx113_1
         replace hx113_2 := pw_cell_below HB.out hx113_2
         replace hx113_3 := pw_cell_below HB.out hx113_3
         replace p113 := eq_true p113
         replace q113 := eq_true q113
         refine start_ (n := 16) (S := fun w' => w'.cell? ⟨gb110, 0, none⟩ = some (.string ((rd_T46 s0_0 s0_1).f1)) ∧ w'.cell? ⟨gb110, 1, none⟩ = some (u111001) ∧ w'.cell? ⟨gb110, 2, none⟩ = some (.bool false) ∧ w'.cell? ⟨gb110, 3, none⟩ = some (.slice none 0 0) ∧ w'.cell? ⟨gb110, 4, none⟩ = some (.int .i64 ((rd_T46 s0_0 s0_1).f3)) ∧ w'.cell? ⟨g, 0, none⟩ = some (.slice (some ad113) (s0_0).length cSz24_0) ∧ w'.cell? ⟨g, 1, none⟩ = some (.int .i64 x1001_1) ∧ w'.cell? ⟨g, 2, none⟩ = some (.int .i64 s0_2) ∧ w'.cell? ⟨g, 3, none⟩ = some (.int .i64 s0_3) ∧ w'.cell? (ad113.add ((x1001_1).toNat * 4)) = some (.int .i64 ((rd_T46 s0_0 x1001_1).f0)) ∧ w'.cell? ⟨(ad113.add ((x1001_1).toNat * 4)).block, (ad113.add ((x1001_1).toNat * 4)).off + 1, none⟩ = some (.string ((rd_T46 s0_0 x1001_1).f1)) ∧ w'.cell? ⟨(ad113.add ((x1001_1).toNat * 4)).block, (ad113.add ((x1001_1).toNat * 4)).off + 2, none⟩ = some (.int .i64 ((rd_T46 s0_0 x1001_1).f2)) ∧ w'.cell? ⟨(ad113.add ((x1001_1).toNat * 4)).block, (ad113.add ((x1001_1).toNat * 4)).off + 3, none⟩ = some (.int .i64 ((rd_T46 s0_0 x1001_1).f3))) (ds := [13, 15]) #[false, false, false, false, false, false, false, false, false, false, false, false, false, false, false, false] (by kernel_rfl) rfl rfl ⟨(blk_cell BK110.out 0).trans rfl, (blk_cell BK110.out 1).trans rfl, (blk_cell BK110.out 2).trans rfl, (blk_cell BK110.out 3).trans rfl, (blk_cell BK110.out 4).trans rfl, hcz24_0, hcz24_1, hcz24_2, hcz24_3, (pw_cell_below HB.out hw113_0), (pw_cell_below HB.out hw113_1), (pw_cell_below HB.out hw113_2), (pw_cell_below HB.out hw113_3)⟩ (fun hHeld => ?_); refine with_tabW parser_parser_entry.tab5 parser_parser_entry.bits5 (fun HT_ HW_ => ?_)
         generalize w22.drew = w23 at HO_111001 BK107 BK110 HI0 HK HB hx113_0 hx113_1 hx113_2 hx113_3 hHeld ⊢
         refine pr_ (i := 0) (N := some 55) #[true, false, false, false, false, false, false, false, false, false, false, false, false, false, false, false] (any_of HT_.out (by kernel_rfl)) ?_
         refine pr_ (i := 2) (N := some 57) #[true, false, true, false, false, false, false, false, false, false, false, false, false, false, false, false] (any_of HT_.out (by kernel_rfl)) ?_
         refine pr_ (i := 3) (N := some 58) #[true, false, true, true, false, false, false, false, false, false, false, false, false, false, false, false] (any_of HT_.out (by kernel_rfl)) ?_
         refine pr_ (i := 4) (N := some 59) #[true, false, true, true, true, false, false, false, false, false, false, false, false, false, false, false] (any_of HT_.out (by kernel_rfl)) ?_
         refine pr_ (i := 6) (N := some 61) #[true, false, true, true, true, false, true, false, false, false, false, false, false, false, false, false] (any_of HT_.out (by kernel_rfl)) ?_
         refine pr_ (i := 7) (N := some 62) #[true, false, true, true, true, false, true, true, false, false, false, false, false, false, false, false] (any_of HT_.out (by kernel_rfl)) ?_
         refine pr_ (i := 8) (N := some 63) #[true, false, true, true, true, false, true, true, true, false, false, false, false, false, false, false] (any_of HT_.out (by kernel_rfl)) ?_
         refine take_ (i := 1) (N := some 56) (v := ?_) (a' := ?_) #[true, true, true, true, true, false, true, true, true, false, false, false, false, false, false, false] rfl rfl (take_ofW HT_.out HW_.out (by kernel_rfl)) (fun _ _ _ h => h) (Or.inl ⟨by rfl, ?_⟩) hHeld ?_ ?_
         rotate_left
         ·
          rintro w' ⟨s0, s1, s2, s3, s4, s5, s6, s7, s8, s9, s10, s11, s12⟩
          go_simp
          with_reducible rfl
         rotate_left
         ·
          simp only [Act.put, List.setIfInBounds_toArray, List.set_cons_zero, List.set_cons_succ, i64_w, i32_w]
          rfl
         refine take_ (i := 5) (N := some 60) (v := ?_) (a' := ?_) #[true, true, true, true, true, true, true, true, true, false, false, false, false, false, false, false] rfl rfl (take_ofW HT_.out HW_.out (by kernel_rfl)) (fun _ _ _ h => h) (Or.inl ⟨by rfl, ?_⟩) hHeld ?_ ?_
         rotate_left
         ·
          rintro w' ⟨s0, s1, s2, s3, s4, s5, s6, s7, s8, s9, s10, s11, s12⟩
          go_simp
          with_reducible rfl
         rotate_left
         ·
          simp only [Act.put, List.setIfInBounds_toArray, List.set_cons_zero, List.set_cons_succ, i64_w, i32_w]
          rfl
         refine take_ (i := 9) (N := some 64) (v := ?_) (a' := ?_) #[true, true, true, true, true, true, true, true, true, true, false, false, false, false, false, false] rfl rfl (take_ofW HT_.out HW_.out (by kernel_rfl)) (fun _ _ _ h => h) (Or.inl ⟨by rfl, ?_⟩) hHeld ?_ ?_
         rotate_left
         ·
          rintro w' ⟨s0, s1, s2, s3, s4, s5, s6, s7, s8, s9, s10, s11, s12⟩
          go_simp
          with_reducible rfl
         rotate_left
         ·
          simp only [Act.put, List.setIfInBounds_toArray, List.set_cons_zero, List.set_cons_succ, i64_w, i32_w]
          rfl
         refine pr_ (i := 10) (N := some 65) #[true, true, true, true, true, true, true, true, true, true, true, false, false, false, false, false] (any_of HT_.out (by kernel_rfl)) ?_
         refine take_ (i := 11) (N := some 66) (v := ?_) (a' := ?_) #[true, true, true, true, true, true, true, true, true, true, true, true, false, false, false, false] rfl rfl (take_ofW HT_.out HW_.out (by kernel_rfl)) (fun _ _ _ h => h) (Or.inl ⟨by rfl, ?_⟩) hHeld ?_ ?_
         rotate_left
         ·
          rintro w' ⟨s0, s1, s2, s3, s4, s5, s6, s7, s8, s9, s10, s11, s12⟩
          go_simp
          with_reducible rfl
         rotate_left
         ·
          simp only [Act.put, List.setIfInBounds_toArray, List.set_cons_zero, List.set_cons_succ, i64_w, i32_w]
          rfl
         refine one_ (i := 12) (N := some 67) #[true, true, true, true, true, true, true, true, true, true, true, true, true, false, false, false] rfl rfl (one_of HT_.out (by kernel_rfl)) (by decide) (fun K hK => ?_)
         refine value_ (w1 := ?_) (v := ?_) (by rfl) rfl ?_ ?_
         rotate_left 2
         ·
          go_simp
          constructor
          ·
           rfl
          ·
           rfl
         refine hK.out _ _ ⟨(blk_cell (blk_alloc BK110.out _) 0).trans rfl, (blk_cell (blk_alloc BK110.out _) 1).trans rfl, (blk_cell (blk_alloc BK110.out _) 2).trans rfl, (blk_cell (blk_alloc BK110.out _) 3).trans rfl, (blk_cell (blk_alloc BK110.out _) 4).trans rfl, al_ (hHeld.2.2.2.2.2.1), al_ (hHeld.2.2.2.2.2.2.1), al_ (hHeld.2.2.2.2.2.2.2.1), al_ (hHeld.2.2.2.2.2.2.2.2.1), al_ ((pw_cell_below HB.out hw113_0)), al_ ((pw_cell_below HB.out hw113_1)), al_ ((pw_cell_below HB.out hw113_2)), al_ ((pw_cell_below HB.out hw113_3))⟩ (fun hHeld => ?_)
         clear hK K
         refine norm_ (a' := ?_) ?_ ?_
         rotate_left
         ·
          show Act.put _ (some 67) _ = _
          simp only [Act.put, List.setIfInBounds_toArray, List.set_cons_zero, List.set_cons_succ, i64_w, i32_w]
          rfl
         refine last_ (i := 13) (N := some 68) #[true, true, true, true, true, true, true, true, true, true, true, true, true, true, false, false] rfl rfl (one_of HT_.out (by kernel_rfl)) (by decide) (fun K hK => ?_)
         refine Kd.R_append_step k46 w.heap.size (by rfl) (.tmp 56) (.tmp 67) 31 46 (.agg #[(.int .i64 0), (.string ⟨#[]⟩), (.int .i64 0), (.int .i64 0)]) 40 rfl Tryd.underlying31 info46 rfl (by decide) (by omega) u111001 x111001_1 (⟨(rd_T46 s0_0 x1001_1).f0, (rd_T46 s0_0 x1001_1).f1, (rd_T46 s0_0 x1001_1).f2, (rd_T46 s0_0 x1001_1).f3⟩ : S46) [.int .i64 ((rd_T46 s0_0 x1001_1).f0), .string ((rd_T46 s0_0 x1001_1).f1), .int .i64 ((rd_T46 s0_0 x1001_1).f2), .int .i64 ((rd_T46 s0_0 x1001_1).f3)] (fun _ => True) (fun _ => False) rfl rfl ?aP (fun _ hk => hk.elim) ?aF ?aO (Below.refl _ _) ?aS ?aL ?_
         (case aP => exact k46_mkM _ _ _ (⟨(rd_T46 s0_0 x1001_1).f0, (rd_T46 s0_0 x1001_1).f1, (rd_T46 s0_0 x1001_1).f2, (rd_T46 s0_0 x1001_1).f3⟩ : S46))
         (case aF => exact (fun _ _ => trivial))
         (case aO => exact (rR_ HO_111001.out))
         (case aS => exact (keep_size (w := w) (g := g) (row := none) (kk2_ HK.out GW107.out GW110.out)))
         (case aL => have := LMc19.out; omega)
         intro v115 w25 ho hb hg hat
         rw [← Ny114.out] at ho
         refine cut6_ (blk_grown (g := gb107) (o := .cells #[.string (⟨#[]⟩ : ByteArray), .slice none 0 0, .bool false, .slice none 0 0, .int .i64 0] 41 (0, 0)) (bk_ BK107.out) hg (Kd.R_ne HO_111001.out BK107.out (by decide))) (blk_grown (g := gb110) (o := .cells #[.string ((rd_T46 s0_0 s0_1).f1), u111001, .bool false, .slice none 0 0, .int .i64 ((rd_T46 s0_0 s0_1).f3)] 41 (0, 0)) (bk_ BK110.out) hg (Kd.R_ne HO_111001.out BK110.out (by decide))) (IsS69.grown (is69_2 HI0.out NB0_107.out NB0_110.out) hg (IsS69.own_ne HI0.out HO_111001.out (by decide))) (below_weaken (bl3_ HB.out (IsS69.ge HI0.out) GE107.out GE110.out) HL.out hb) (KeepBut.trans (kk2_ HK.out GW107.out GW110.out) (KeepBut.of_grown hg g) (Kd.R_base2 HO_111001.out)) (ho) ?_
         clear BK107 BK110 HI0 HB HK HO_111001
         intro BK107 BK110 HI0 HB HK HO116
         clear ho hb hg hat
         obtain ⟨Ao26, co26, eo26⟩ := Kd.R_slice HO116.out
         (first | subst eo26 | (injection eo26 with f1_ f2_ f3_; have f4_ := f1_.symm; have f5_ := f3_.symm; clear f1_ f2_ f3_; subst f4_; subst f5_))
         refine hK.out _ _ ?_
         clear hK K
         refine norm_ (a' := ?_) ?_ ?_
         rotate_left
         ·
          show Act.put _ (some 68) _ = _
          simp only [Act.put, List.setIfInBounds_toArray, List.set_cons_zero, List.set_cons_succ, i64_w, i32_w]
          rfl
         refine pr_ (i := 14) (N := some 69) #[true, true, true, true, true, true, true, true, true, true, true, true, true, true, true, false] (any_of HT_.out (by kernel_rfl)) ?_
         refine last_ (i := 15) (N := none) #[true, true, true, true, true, true, true, true, true, true, true, true, true, true, true, true] rfl rfl (one_of HT_.out (by kernel_rfl)) (by decide) (fun K hK => ?_)
         have hs27 : w25.cell? ⟨gb110, 1, none⟩ = some (u111001) := (blk_cell BK110.out 1).trans rfl
         have hfs27 := blk_frozen BK110.out 1
         have hns27_0 := NB107_110.out
         have hms27_0 := NB110_107.out
         refine skip_ (w1 := ?_) (by rfl) rfl ?_ ?_
         rotate_left
         ·
          go_simp
          rfl
         refine hK.out _ _ ?_
         clear hK K
         refine done_ (done_of HT_.out (by kernel_rfl)) ?_
         obtain ⟨ASz28_0, cSz28_0, HGz28, hgz28, HSz28_0⟩ := (IsS69.far (p := ⟨gb110, 1, none⟩) HI0.out NB0_110.out (.slice Ao26 y114.length co26))
         have hcz28_0 := cellS69_0 HGz28
         have hcz28_1 := cellS69_1 HGz28
         have hcz28_2 := cellS69_2 HGz28
         have hcz28_3 := cellS69_3 HGz28
         have hfz28_1 := blk_frozen HGz28 1
         have hfz28_2 := blk_frozen HGz28 2
         have hfz28_3 := blk_frozen HGz28 3
         clear HGz28 hgz28
         try go_wp2
         go_roundg k1
         case measure => have := HK1.out; omega
         case rel => exact ⟨(wrap64 (x1001_1 + 1)), (y114), (.slice Ao26 y114.length co26), H', ⟨by have := HK1.out; omega⟩, ⟨by (with_reducible repeat (first | apply Kd.R_alloc | apply Kd.R_drewN | apply Kd.R_drew)); exact Kd.R_mono (Kd.R_far (p := ⟨g, 1, none⟩) (Kd.R_far (p := ⟨gb110, 1, none⟩) (IsS69.apart HI0.out (Kd.R_types HO116.out BK110.out (by decide)) (by decide)) (fun _ hk => hk.1.2) (.slice Ao26 y114.length co26)) (fun _ hk => hk.2) (.int .i64 (wrap64 (x1001_1 + 1)))) (fun _ hk => trivial)⟩, ⟨by exact far1_ (far1_ (bk_ BK107.out) NB107_110.out) NB107_0.out⟩, ⟨by refine far1_ ?_ NB110_0.out; refine blk_put (cs := #[.string ((rd_T46 s0_0 s0_1).f1), u111001, .bool false, .slice none 0 0, .int .i64 ((rd_T46 s0_0 s0_1).f3)]) ?_ 1 _ rfl; exact bk_ BK110.out⟩, ⟨(by exact IsS69.set_1 (IsS69.far HI0.out NB0_110.out _) _)⟩, ⟨by repeat (first | (with_reducible first | exact HK.out | apply KeepBut.set_ | apply keep_drewN | apply keep_drew | apply keep_alloc | refine keep_far ?_ GW107.out _ | refine keep_far ?_ GW110.out _) | exact HK.out)⟩, ⟨bl3_ HB.out (IsS69.ge HI0.out) GE107.out GE110.out⟩⟩
        ·
         rw [if_neg c19] at H
         exact absurd H (by simp)
       ·
        replace c18 := Bool.eq_false_iff.mpr c18
        subst c18
        have H1 : ((parser_sign.f ((rd_T46 s0_0 x1001_1).f0) ((rd_T46 s0_0 x1001_1).f1) ((rd_T46 s0_0 x1001_1).f2) ((rd_T46 s0_0 x1001_1).f3) (⟨#[59]⟩ : ByteArray)).bind fun t119 => (if t119 = true then (some (((rd_T46 s0_0 s0_1).f1), x111001_1, false, ([] : List (S41)), ((rd_T46 s0_0 s0_1).f3), wrap64 (x1001_1 + 1), s0_2, s0_3)) else ((parser_sign.f ((rd_T46 s0_0 x1001_1).f0) ((rd_T46 s0_0 x1001_1).f1) ((rd_T46 s0_0 x1001_1).f2) ((rd_T46 s0_0 x1001_1).f3) (⟨#[123]⟩ : ByteArray)).bind fun t120 => (if t120 = true then (parser_parser_entry.j1 EF k1 a1 (a1 == 8) s0_0 x1001_1 s0_2 s0_3 ((rd_T46 s0_0 s0_1).f1) x111001_1 false ((rd_T46 s0_0 s0_1).f3) ((rd_T46 s0_0 x1001_1).f0) ((rd_T46 s0_0 x1001_1).f1) ((rd_T46 s0_0 x1001_1).f2) ((rd_T46 s0_0 x1001_1).f3)) else (parser_parser_entry.j1 EF k1 a1 false s0_0 x1001_1 s0_2 s0_3 ((rd_T46 s0_0 s0_1).f1) x111001_1 false ((rd_T46 s0_0 s0_1).f3) ((rd_T46 s0_0 x1001_1).f0) ((rd_T46 s0_0 x1001_1).f1) ((rd_T46 s0_0 x1001_1).f2) ((rd_T46 s0_0 x1001_1).f3)))))) = some (r1, r2, r3, r4, r5, r6, r7, r8) := by rw [if_neg (show ¬ (false = true) by decide)] at H; exact H
        clear H
        have H := H1
        clear H1
        replace H := Option.bind_eq_some_iff.mp H
        obtain ⟨t119, A290, H⟩ := H
        (try dsimp only at H)
        have A29 := Aside0.mk A290
        clear A290
        by_cases c30 : t119 = true
        ·
         subst c30
         have H1 : (some (((rd_T46 s0_0 s0_1).f1), x111001_1, false, ([] : List (S41)), ((rd_T46 s0_0 s0_1).f3), wrap64 (x1001_1 + 1), s0_2, s0_3)) = some (r1, r2, r3, r4, r5, r6, r7, r8) := by rw [if_pos rfl] at H; exact H
         clear H
         have H := H1
         clear H1
         simp only [Option.some.injEq, Prod.mk.injEq] at H
         obtain ⟨rfl, rfl, rfl, rfl, rfl, rfl, rfl, rfl⟩ := H
         try go_wp2
         refine cut6_ (Kd.R_drew HO_111001.out) (blk_drew BK107.out) (blk_drew BK110.out) (IsS69.drew HI0.out) (keep_drew HK.out) (below_drew1 HB.out) ?_
         clear HO_111001 BK107 BK110 HI0 HK HB
         intro HO_111001 BK107 BK110 HI0 HK HB
         obtain ⟨ASz32_0, cSz32_0, HGz32, hgz32, HSz32_0⟩ := HI0.out
         have hcz32_0 := cellS69_0 HGz32
         have hcz32_1 := cellS69_1 HGz32
         have hcz32_2 := cellS69_2 HGz32
         have hcz32_3 := cellS69_3 HGz32
         have hfz32_1 := blk_frozen HGz32 1
         have hfz32_2 := blk_frozen HGz32 2
         have hfz32_3 := blk_frozen HGz32 3
         clear HGz32 hgz32
         have p111 : 0 ≤ (x1001_1 : Int) := dt_
         have q111 : x1001_1 < (s0_0.length : Int) := dt_
         obtain ⟨ad111, e111, hx111_0, hx111_1, hx111_2, hx111_3⟩ := at_T46 HSz32_0 x1001_1 p111 q111
         have hw111_3 := hx111_3
         have hw111_2 := hx111_2
         have hw111_1 := hx111_1
         have hw111_0 := hx111_0
         cases e111
         replace hx111_0 := pw_cell_below HB.out hx111_0
         replace hx111_1 := pw_cell_below HB.out hx111_1
         replace hx111_2 := pw_cell_below HB.out hx111_2
         replace hx111_3 := pw_cell_below HB.out hx111_3
         replace p111 := eq_true p111
         replace q111 := eq_true q111
         refine start_ (n := 11) (S := fun w' => w'.cell? ⟨g, 0, none⟩ = some (.slice (some ad111) (s0_0).length cSz32_0) ∧ w'.cell? ⟨g, 1, none⟩ = some (.int .i64 x1001_1) ∧ w'.cell? ⟨g, 2, none⟩ = some (.int .i64 s0_2) ∧ w'.cell? ⟨g, 3, none⟩ = some (.int .i64 s0_3) ∧ w'.cell? (ad111.add ((x1001_1).toNat * 4)) = some (.int .i64 ((rd_T46 s0_0 x1001_1).f0)) ∧ w'.cell? ⟨(ad111.add ((x1001_1).toNat * 4)).block, (ad111.add ((x1001_1).toNat * 4)).off + 1, none⟩ = some (.string ((rd_T46 s0_0 x1001_1).f1)) ∧ w'.cell? ⟨(ad111.add ((x1001_1).toNat * 4)).block, (ad111.add ((x1001_1).toNat * 4)).off + 2, none⟩ = some (.int .i64 ((rd_T46 s0_0 x1001_1).f2)) ∧ w'.cell? ⟨(ad111.add ((x1001_1).toNat * 4)).block, (ad111.add ((x1001_1).toNat * 4)).off + 3, none⟩ = some (.int .i64 ((rd_T46 s0_0 x1001_1).f3))) (ds := []) #[false, false, false, false, false, false, false, false, false, false, false] (by kernel_rfl) rfl rfl ⟨hcz32_0, hcz32_1, hcz32_2, hcz32_3, (pw_cell_below HB.out hw111_0), (pw_cell_below HB.out hw111_1), (pw_cell_below HB.out hw111_2), (pw_cell_below HB.out hw111_3)⟩ (fun hHeld => ?_); refine with_tabW parser_parser_entry.tab3 parser_parser_entry.bits3 (fun HT_ HW_ => ?_)
         generalize wr.drew = w31 at HO_111001 BK107 BK110 HI0 HK HB hx111_0 hx111_1 hx111_2 hx111_3 hHeld ⊢
         refine pr_ (i := 0) (N := some 37) #[true, false, false, false, false, false, false, false, false, false, false] (any_of HT_.out (by kernel_rfl)) ?_
         refine pr_ (i := 1) (N := some 38) #[true, true, false, false, false, false, false, false, false, false, false] (any_of HT_.out (by kernel_rfl)) ?_
         refine pr_ (i := 2) (N := some 39) #[true, true, true, false, false, false, false, false, false, false, false] (any_of HT_.out (by kernel_rfl)) ?_
         refine pr_ (i := 4) (N := some 41) #[true, true, true, false, true, false, false, false, false, false, false] (any_of HT_.out (by kernel_rfl)) ?_
         refine pr_ (i := 5) (N := some 42) #[true, true, true, false, true, true, false, false, false, false, false] (any_of HT_.out (by kernel_rfl)) ?_
         refine pr_ (i := 6) (N := some 43) #[true, true, true, false, true, true, true, false, false, false, false] (any_of HT_.out (by kernel_rfl)) ?_
         refine take_ (i := 3) (N := some 40) (v := ?_) (a' := ?_) #[true, true, true, true, true, true, true, false, false, false, false] rfl rfl (take_ofW HT_.out HW_.out (by kernel_rfl)) (fun _ _ _ h => h) (Or.inl ⟨by rfl, ?_⟩) hHeld ?_ ?_
         rotate_left
         ·
          rintro w' ⟨s0, s1, s2, s3, s4, s5, s6, s7⟩
          go_simp
          with_reducible rfl
         rotate_left
         ·
          simp only [Act.put, List.setIfInBounds_toArray, List.set_cons_zero, List.set_cons_succ, i64_w, i32_w]
          rfl
         refine take_ (i := 7) (N := some 44) (v := ?_) (a' := ?_) #[true, true, true, true, true, true, true, true, false, false, false] rfl rfl (take_ofW HT_.out HW_.out (by kernel_rfl)) (fun _ _ _ h => h) (Or.inl ⟨by rfl, ?_⟩) hHeld ?_ ?_
         rotate_left
         ·
          rintro w' ⟨s0, s1, s2, s3, s4, s5, s6, s7⟩
          go_simp
          with_reducible rfl
         rotate_left
         ·
          simp only [Act.put, List.setIfInBounds_toArray, List.set_cons_zero, List.set_cons_succ, i64_w, i32_w]
          rfl
         refine pr_ (i := 8) (N := some 45) #[true, true, true, true, true, true, true, true, true, false, false] (any_of HT_.out (by kernel_rfl)) ?_
         refine take_ (i := 9) (N := some 46) (v := ?_) (a' := ?_) #[true, true, true, true, true, true, true, true, true, true, false] rfl rfl (take_ofW HT_.out HW_.out (by kernel_rfl)) (fun _ _ _ h => h) (Or.inl ⟨by rfl, ?_⟩) hHeld ?_ ?_
         rotate_left
         ·
          rintro w' ⟨s0, s1, s2, s3, s4, s5, s6, s7⟩
          go_simp
          with_reducible rfl
         rotate_left
         ·
          simp only [Act.put, List.setIfInBounds_toArray, List.set_cons_zero, List.set_cons_succ, i64_w, i32_w]
          rfl
         refine one_ (i := 10) (N := some 47) #[true, true, true, true, true, true, true, true, true, true, true] rfl rfl (one_of HT_.out (by kernel_rfl)) (by decide) (fun K hK => ?_)
         refine goes_ Tryd.func85 (by kernel_rfl) rfl #[.agg #[.int .i64 ((rd_T46 s0_0 x1001_1).f0), .string ((rd_T46 s0_0 x1001_1).f1), .int .i64 ((rd_T46 s0_0 x1001_1).f2), .int .i64 ((rd_T46 s0_0 x1001_1).f3)]] (by rfl) rfl rfl ga_ ?_
         with_reducible refine (parser_atom.calls ((rd_T46 s0_0 x1001_1).f0) ((rd_T46 s0_0 x1001_1).f1) ((rd_T46 s0_0 x1001_1).f2) ((rd_T46 s0_0 x1001_1).f3) false _ A17.out).mono ?_
         rintro e w33 ⟨rfl, hb⟩
         have HS0_ := (hb.cell (World.block_lt_of_cell? _ _ (hHeld.1))).trans (hHeld.1)
         have HS1_ := (hb.cell (World.block_lt_of_cell? _ _ (hHeld.2.1))).trans (hHeld.2.1)
         have HS2_ := (hb.cell (World.block_lt_of_cell? _ _ (hHeld.2.2.1))).trans (hHeld.2.2.1)
         have HS3_ := (hb.cell (World.block_lt_of_cell? _ _ (hHeld.2.2.2.1))).trans (hHeld.2.2.2.1)
         refine ⟨_, rfl, ?_⟩
         refine cut6_ (Kd.R_below (rR_ HO_111001.out) hb) (bb_ BK107.out hb) (bb_ BK110.out hb) (IsS69.below (is69_2 HI0.out NB0_107.out NB0_110.out) hb) (KeepBut.trans (kk2_ HK.out GW107.out GW110.out) (KeepBut.of_below hb g none) (.inl rfl)) (below_step (bl3_ HB.out (IsS69.ge HI0.out) GE107.out GE110.out) hb) ?_
         clear HO_111001 BK107 BK110 HI0 HK HB
         intro HO_111001 BK107 BK110 HI0 HK HB
         (try clear hb)
         (try clear hb2)
         (try clear hk)
         (try clear hi)
         refine hK.out _ _ ⟨HS0_, HS1_, HS2_, HS3_, (pw_cell_below HB.out hw111_0), (pw_cell_below HB.out hw111_1), (pw_cell_below HB.out hw111_2), (pw_cell_below HB.out hw111_3)⟩ (fun hHeld => ?_)
         clear hK K
         refine norm_ (a' := ?_) ?_ ?_
         rotate_left
         ·
          show Act.put _ (some 47) _ = _
          simp only [Act.put, List.setIfInBounds_toArray, List.set_cons_zero, List.set_cons_succ, i64_w, i32_w]
          rfl
         refine done_ (done_of HT_.out (by kernel_rfl)) ?_
         try go_wp2
         refine cut6_ (Kd.R_drew HO_111001.out) (blk_drew BK107.out) (blk_drew BK110.out) (IsS69.drew HI0.out) (keep_drew HK.out) (below_drew1 HB.out) ?_
         clear HO_111001 BK107 BK110 HI0 HK HB
         intro HO_111001 BK107 BK110 HI0 HK HB
         obtain ⟨ASz35_0, cSz35_0, HGz35, hgz35, HSz35_0⟩ := HI0.out
         have hcz35_0 := cellS69_0 HGz35
         have hcz35_1 := cellS69_1 HGz35
         have hcz35_2 := cellS69_2 HGz35
         have hcz35_3 := cellS69_3 HGz35
         have hfz35_1 := blk_frozen HGz35 1
         have hfz35_2 := blk_frozen HGz35 2
         have hfz35_3 := blk_frozen HGz35 3
         clear HGz35 hgz35
         have p117 : 0 ≤ (x1001_1 : Int) := dt_
         have q117 : x1001_1 < (s0_0.length : Int) := dt_
         obtain ⟨ad117, e117, hx117_0, hx117_1, hx117_2, hx117_3⟩ := at_T46 HSz35_0 x1001_1 p117 q117
         have hw117_3 := hx117_3
         have hw117_2 := hx117_2
         have hw117_1 := hx117_1
         have hw117_0 := hx117_0
         cases e117
         replace hx117_0 := pw_cell_below HB.out hx117_0
         replace hx117_1 := pw_cell_below HB.out hx117_1
         replace hx117_2 := pw_cell_below HB.out hx117_2
         replace hx117_3 := pw_cell_below HB.out hx117_3
         replace p117 := eq_true p117
         replace q117 := eq_true q117
         refine start_ (n := 12) (S := fun w' => w'.cell? ⟨g, 0, none⟩ = some (.slice (some ad117) (s0_0).length cSz35_0) ∧ w'.cell? ⟨g, 1, none⟩ = some (.int .i64 x1001_1) ∧ w'.cell? ⟨g, 2, none⟩ = some (.int .i64 s0_2) ∧ w'.cell? ⟨g, 3, none⟩ = some (.int .i64 s0_3) ∧ w'.cell? (ad117.add ((x1001_1).toNat * 4)) = some (.int .i64 ((rd_T46 s0_0 x1001_1).f0)) ∧ w'.cell? ⟨(ad117.add ((x1001_1).toNat * 4)).block, (ad117.add ((x1001_1).toNat * 4)).off + 1, none⟩ = some (.string ((rd_T46 s0_0 x1001_1).f1)) ∧ w'.cell? ⟨(ad117.add ((x1001_1).toNat * 4)).block, (ad117.add ((x1001_1).toNat * 4)).off + 2, none⟩ = some (.int .i64 ((rd_T46 s0_0 x1001_1).f2)) ∧ w'.cell? ⟨(ad117.add ((x1001_1).toNat * 4)).block, (ad117.add ((x1001_1).toNat * 4)).off + 3, none⟩ = some (.int .i64 ((rd_T46 s0_0 x1001_1).f3))) (ds := []) #[false, false, false, false, false, false, false, false, false, false, false, false] (by kernel_rfl) rfl rfl ⟨hcz35_0, hcz35_1, hcz35_2, hcz35_3, (pw_cell_below HB.out hw117_0), (pw_cell_below HB.out hw117_1), (pw_cell_below HB.out hw117_2), (pw_cell_below HB.out hw117_3)⟩ (fun hHeld => ?_); refine with_tabW parser_parser_entry.tab6 parser_parser_entry.bits6 (fun HT_ HW_ => ?_)
         generalize w33.drew = w34 at HO_111001 BK107 BK110 HI0 HK HB hx117_0 hx117_1 hx117_2 hx117_3 hHeld ⊢
         refine pr_ (i := 0) (N := some 70) #[true, false, false, false, false, false, false, false, false, false, false, false] (any_of HT_.out (by kernel_rfl)) ?_
         refine pr_ (i := 1) (N := some 71) #[true, true, false, false, false, false, false, false, false, false, false, false] (any_of HT_.out (by kernel_rfl)) ?_
         refine pr_ (i := 2) (N := some 72) #[true, true, true, false, false, false, false, false, false, false, false, false] (any_of HT_.out (by kernel_rfl)) ?_
         refine pr_ (i := 4) (N := some 74) #[true, true, true, false, true, false, false, false, false, false, false, false] (any_of HT_.out (by kernel_rfl)) ?_
         refine pr_ (i := 5) (N := some 75) #[true, true, true, false, true, true, false, false, false, false, false, false] (any_of HT_.out (by kernel_rfl)) ?_
         refine pr_ (i := 6) (N := some 76) #[true, true, true, false, true, true, true, false, false, false, false, false] (any_of HT_.out (by kernel_rfl)) ?_
         refine take_ (i := 3) (N := some 73) (v := ?_) (a' := ?_) #[true, true, true, true, true, true, true, false, false, false, false, false] rfl rfl (take_ofW HT_.out HW_.out (by kernel_rfl)) (fun _ _ _ h => h) (Or.inl ⟨by rfl, ?_⟩) hHeld ?_ ?_
         rotate_left
         ·
          rintro w' ⟨s0, s1, s2, s3, s4, s5, s6, s7⟩
          go_simp
          with_reducible rfl
         rotate_left
         ·
          simp only [Act.put, List.setIfInBounds_toArray, List.set_cons_zero, List.set_cons_succ, i64_w, i32_w]
          rfl
         refine take_ (i := 7) (N := some 77) (v := ?_) (a' := ?_) #[true, true, true, true, true, true, true, true, false, false, false, false] rfl rfl (take_ofW HT_.out HW_.out (by kernel_rfl)) (fun _ _ _ h => h) (Or.inl ⟨by rfl, ?_⟩) hHeld ?_ ?_
         rotate_left
         ·
          rintro w' ⟨s0, s1, s2, s3, s4, s5, s6, s7⟩
          go_simp
          with_reducible rfl
         rotate_left
         ·
          simp only [Act.put, List.setIfInBounds_toArray, List.set_cons_zero, List.set_cons_succ, i64_w, i32_w]
          rfl
         refine pr_ (i := 8) (N := some 78) #[true, true, true, true, true, true, true, true, true, false, false, false] (any_of HT_.out (by kernel_rfl)) ?_
         refine take_ (i := 9) (N := some 79) (v := ?_) (a' := ?_) #[true, true, true, true, true, true, true, true, true, true, false, false] rfl rfl (take_ofW HT_.out HW_.out (by kernel_rfl)) (fun _ _ _ h => h) (Or.inl ⟨by rfl, ?_⟩) hHeld ?_ ?_
         rotate_left
         ·
          rintro w' ⟨s0, s1, s2, s3, s4, s5, s6, s7⟩
          go_simp
          with_reducible rfl
         rotate_left
         ·
          simp only [Act.put, List.setIfInBounds_toArray, List.set_cons_zero, List.set_cons_succ, i64_w, i32_w]
          rfl
         refine one_ (i := 10) (N := some 6) #[true, true, true, true, true, true, true, true, true, true, true, false] rfl rfl (one_of HT_.out (by kernel_rfl)) (by decide) (fun K hK => ?_)
         refine box_step ?hg (N := 6) ?hd (cs := #[.int .i64 0, .string (⟨#[]⟩ : ByteArray), .int .i64 0, .int .i64 0]) (t := 46) ?hr ?_; (case hd => rfl); (case hg => rfl); (case hr => first | (go_simp; done) | (go_simp; rfl))
         intro gb118 hg w36 hbox hb
         have HS0_ := (hb.cell (World.block_lt_of_cell? _ _ (hHeld.1))).trans (hHeld.1)
         have HS1_ := (hb.cell (World.block_lt_of_cell? _ _ (hHeld.2.1))).trans (hHeld.2.1)
         have HS2_ := (hb.cell (World.block_lt_of_cell? _ _ (hHeld.2.2.1))).trans (hHeld.2.2.1)
         have HS3_ := (hb.cell (World.block_lt_of_cell? _ _ (hHeld.2.2.2.1))).trans (hHeld.2.2.2.1)
         refine cut15_ (Kd.R_below (Kd.R_elderB (rR_ HO_111001.out) gb118 (Nat.le_of_eq hg.symm)) hb) (bb_ BK107.out hb) (bb_ BK110.out hb) (IsS69.below (is69_2 HI0.out NB0_107.out NB0_110.out) hb) (KeepBut.trans (kk2_ HK.out GW107.out GW110.out) (KeepBut.of_below hb g none) (.inl rfl)) (below_step (bl3_ HB.out (IsS69.ge HI0.out) GE107.out GE110.out) hb) (hbox) (kz_ hg (kk2_ HK.out GW107.out GW110.out)) ((Nat.le_trans HW0.out (by rw [hg]; exact (keep_size (w := w) (g := g) (row := none) (kk2_ HK.out GW107.out GW110.out)) : w.heap.size ≤ gb118) : w0.heap.size ≤ gb118)) (nl_ hg BK107.out) (ng_ hg BK107.out) (nl_ hg BK110.out) (ng_ hg BK110.out) ((by rw [hg]; exact Nat.ne_of_lt (IsS69.lt (show IsS69 w0 _ g s0_0 x1001_1 s0_2 s0_3 from is69_2 HI0.out NB0_107.out NB0_110.out)) : g ≠ gb118)) ((by rw [hg]; exact Nat.ne_of_gt (IsS69.lt (show IsS69 w0 _ g s0_0 x1001_1 s0_2 s0_3 from is69_2 HI0.out NB0_107.out NB0_110.out)) : gb118 ≠ g)) ?_
         clear HO_111001 BK107 BK110 HI0 HK HB
         intro HO_111001 BK107 BK110 HI0 HK HB BK118 GW118 GE118 NB107_118 NB118_107 NB110_118 NB118_110 NB0_118 NB118_0
         clear hb hbox hg
         refine hK.out _ _ ⟨HS0_, HS1_, HS2_, HS3_, (pw_cell_below HB.out hw117_0), (pw_cell_below HB.out hw117_1), (pw_cell_below HB.out hw117_2), (pw_cell_below HB.out hw117_3)⟩ (fun hHeld => ?_)
         clear hK K
         refine norm_ (a' := ?_) ?_ ?_
         rotate_left
         ·
          show Act.put _ (some 6) _ = _
          simp only [Act.put, List.setIfInBounds_toArray, List.set_cons_zero, List.set_cons_succ, i64_w, i32_w]
          rfl
         refine one_ (i := 11) (N := none) #[true, true, true, true, true, true, true, true, true, true, true, true] rfl rfl (one_of HT_.out (by kernel_rfl)) (by decide) (fun K hK => ?_)
         have hs37 : w36.cell? ⟨gb118, 0, none⟩ = some (.int .i64 0) := (blk_cell BK118.out 0).trans rfl
         have hfs37 := blk_frozen BK118.out 0
         have hns37_0 := NB107_118.out
         have hns37_1 := NB110_118.out
         have hms37_0 := NB118_107.out
         have hms37_1 := NB118_110.out
         have hs38 : w36.cell? ⟨gb118, 1, none⟩ = some (.string (⟨#[]⟩ : ByteArray)) := (blk_cell BK118.out 1).trans rfl
         have hfs38 := blk_frozen BK118.out 1
         have hns38_0 := NB107_118.out
         have hns38_1 := NB110_118.out
         have hms38_0 := NB118_107.out
         have hms38_1 := NB118_110.out
         have hs39 : w36.cell? ⟨gb118, 2, none⟩ = some (.int .i64 0) := (blk_cell BK118.out 2).trans rfl
         have hfs39 := blk_frozen BK118.out 2
         have hns39_0 := NB107_118.out
         have hns39_1 := NB110_118.out
         have hms39_0 := NB118_107.out
         have hms39_1 := NB118_110.out
         have hs40 : w36.cell? ⟨gb118, 3, none⟩ = some (.int .i64 0) := (blk_cell BK118.out 3).trans rfl
         have hfs40 := blk_frozen BK118.out 3
         have hns40_0 := NB107_118.out
         have hns40_1 := NB110_118.out
         have hms40_0 := NB118_107.out
         have hms40_1 := NB118_110.out
         refine skip_ (w1 := ?_) (by rfl) rfl ?_ ?_
         rotate_left
         ·
          go_simp
          rfl
         refine hK.out _ _ ⟨(cf4_ gb118 (fs_ NB0_118.out) hHeld.1), (cf4_ gb118 (fs_ NB0_118.out) hHeld.2.1), (cf4_ gb118 (fs_ NB0_118.out) hHeld.2.2.1), (cf4_ gb118 (fs_ NB0_118.out) hHeld.2.2.2.1), (cf4_ gb118 (fr_ hw117_0 (Nat.le_trans HL.out GW118.out)) hHeld.2.2.2.2.1), (cf4_ gb118 (fr_ hw117_1 (Nat.le_trans HL.out GW118.out)) hHeld.2.2.2.2.2.1), (cf4_ gb118 (fr_ hw117_2 (Nat.le_trans HL.out GW118.out)) hHeld.2.2.2.2.2.2.1), (cf4_ gb118 (fr_ hw117_3 (Nat.le_trans HL.out GW118.out)) hHeld.2.2.2.2.2.2.2)⟩ (fun hHeld => ?_)
         clear hK K
         refine done_ (done_of HT_.out (by kernel_rfl)) ?_
         have hnb41 := NB118_107.out
         have hnc41 := NB107_118.out
         have hnb42 := NB118_110.out
         have hnc42 := NB110_118.out
         have hnb43 := NB118_0.out
         have hnc43 := NB0_118.out
         have hcz44_0 := cz_ (.int .i64 0) BK118.out 0
         have hcz44_1 := cz_ (.string (⟨#[]⟩ : ByteArray)) BK118.out 1
         have hcz44_2 := cz_ (.int .i64 0) BK118.out 2
         have hcz44_3 := cz_ (.int .i64 0) BK118.out 3
         have hfz44_0 := blk_frozen BK118.out 0
         have hfz44_1 := blk_frozen BK118.out 1
         have hfz44_2 := blk_frozen BK118.out 2
         have hfz44_3 := blk_frozen BK118.out 3
         try go_wp2_with (first | ((with_reducible refine gate_callee (f := 77) rfl ?_); refine goesL_ (some 84) rfl rfl Tryd.func77 (by kernel_rfl) rfl #[.agg #[.int .i64 ((rd_T46 s0_0 x1001_1).f0), .string ((rd_T46 s0_0 x1001_1).f1), .int .i64 ((rd_T46 s0_0 x1001_1).f2), .int .i64 ((rd_T46 s0_0 x1001_1).f3)], .string (⟨#[59]⟩ : ByteArray)] rfl ga_ ?_; (with_reducible refine (parser_sign.calls ((rd_T46 s0_0 x1001_1).f0) ((rd_T46 s0_0 x1001_1).f1) ((rd_T46 s0_0 x1001_1).f2) ((rd_T46 s0_0 x1001_1).f3) (⟨#[59]⟩ : ByteArray) true _ A29.out).mono ?_); rintro e w45 ⟨rfl, hb⟩; refine ⟨_, rfl, ?_⟩; refine cut7_ (Kd.R_below (rR_ (Kd.R_mono (Kd.R_far (p := ⟨gb118, 3, none⟩) (Kd.R_far (p := ⟨gb118, 2, none⟩) (Kd.R_far (p := ⟨gb118, 1, none⟩) (Kd.R_far (p := ⟨gb118, 0, none⟩) (Kd.R_mono HO_111001.out (fun k_ hk => (⟨hk, hk.2⟩ : _ ∧ k_ ≠ gb118))) (fun _ hk => hk.2) (.int .i64 ((rd_T46 s0_0 x1001_1).f0))) (fun _ hk => hk.2) (.string ((rd_T46 s0_0 x1001_1).f1))) (fun _ hk => hk.2) (.int .i64 ((rd_T46 s0_0 x1001_1).f2))) (fun _ hk => hk.2) (.int .i64 ((rd_T46 s0_0 x1001_1).f3))) (fun _ h_ => h_.1))) hb) (blk_below (g := gb107) (o := .cells #[.string (⟨#[]⟩ : ByteArray), .slice none 0 0, .bool false, .slice none 0 0, .int .i64 0] 41 (0, 0)) (far4_ (bk_ BK107.out) NB107_118.out) hb) (blk_below (g := gb110) (o := .cells #[.string ((rd_T46 s0_0 s0_1).f1), u111001, .bool false, .slice none 0 0, .int .i64 ((rd_T46 s0_0 s0_1).f3)] 41 (0, 0)) (far4_ (bk_ BK110.out) NB110_118.out) hb) (IsS69.below (show IsS69 w0 ((((w36.setCell ⟨gb118, 0, none⟩ (.int .i64 ((rd_T46 s0_0 x1001_1).f0))).setCell ⟨gb118, 1, none⟩ (.string ((rd_T46 s0_0 x1001_1).f1))).setCell ⟨gb118, 2, none⟩ (.int .i64 ((rd_T46 s0_0 x1001_1).f2))).setCell ⟨gb118, 3, none⟩ (.int .i64 ((rd_T46 s0_0 x1001_1).f3))) g s0_0 x1001_1 s0_2 s0_3 from is69_3 HI0.out NB0_107.out NB0_110.out NB0_118.out) hb) (blk_below (g := gb118) (o := .cells #[.int .i64 ((rd_T46 s0_0 x1001_1).f0), .string ((rd_T46 s0_0 x1001_1).f1), .int .i64 ((rd_T46 s0_0 x1001_1).f2), .int .i64 ((rd_T46 s0_0 x1001_1).f3)] 46 (0, 0)) (put4_ (bk_ BK118.out)) hb) (KeepBut.trans (kk3_ HK.out GW107.out GW110.out GW118.out) (KeepBut.of_below hb g none) (.inl rfl)) (below_step (bl4_ HB.out (IsS69.ge HI0.out) GE107.out GE110.out GE118.out) hb) ?_; clear HO_111001 BK107 BK110 HI0 BK118 HK HB; intro HO_111001 BK107 BK110 HI0 BK118 HK HB; (try clear hb); (try clear hb2); (try clear hk); (try clear hi); obtain ⟨ASz46_0, cSz46_0, HGz46, hgz46, HSz46_0⟩ := HI0.out; have hcz46_0 := cellS69_0 HGz46; have hcz46_1 := cellS69_1 HGz46; have hcz46_2 := cellS69_2 HGz46; have hcz46_3 := cellS69_3 HGz46; have hfz46_1 := blk_frozen HGz46 1; have hfz46_2 := blk_frozen HGz46 2; have hfz46_3 := blk_frozen HGz46 3; clear HGz46 hgz46; have hnb47 := NB110_107.out; have hnc47 := NB107_110.out; have hnb48 := NB110_0.out; have hnc48 := NB0_110.out; obtain ⟨hcz49_0, hcz49_1, hcz49_2, hcz49_3, hcz49_4, hfz49_0, hfz49_1, hfz49_2, hfz49_3, hfz49_4⟩ := cq5_ BK110.out; have hnb50 := NB107_0.out; have hnc50 := NB0_107.out; obtain ⟨hcz51_0, hcz51_1, hcz51_2, hcz51_3, hcz51_4, hfz51_0, hfz51_1, hfz51_2, hfz51_3, hfz51_4⟩ := cq5_ BK107.out; obtain ⟨Ao52, co52, eo52⟩ := Kd.R_slice HO_111001.out; subst eo52))
         refine bodyPost_ret (results_cell_row rfl _ _ gb107 41 #[.string ((rd_T46 s0_0 s0_1).f1), .slice Ao52 x111001_1.length co52, .bool false, .slice none 0 0, .int .i64 ((rd_T46 s0_0 s0_1).f3)] (0, 0) _ rfl (by refine blk_put (cs := #[.string ((rd_T46 s0_0 s0_1).f1), .slice Ao52 x111001_1.length co52, .bool false, .slice none 0 0, .int .i64 0]) ?_ 4 _ rfl; refine blk_put (cs := #[.string ((rd_T46 s0_0 s0_1).f1), .slice Ao52 x111001_1.length co52, .bool false, .slice none 0 0, .int .i64 0]) ?_ 3 _ rfl; refine blk_put (cs := #[.string ((rd_T46 s0_0 s0_1).f1), .slice Ao52 x111001_1.length co52, .bool false, .slice none 0 0, .int .i64 0]) ?_ 2 _ rfl; refine blk_put (cs := #[.string ((rd_T46 s0_0 s0_1).f1), .slice none 0 0, .bool false, .slice none 0 0, .int .i64 0]) ?_ 1 _ rfl; refine blk_put (cs := #[.string (⟨#[]⟩ : ByteArray), .slice none 0 0, .bool false, .slice none 0 0, .int .i64 0]) ?_ 0 _ rfl; exact far1_ (bk_ BK107.out) NB107_0.out) Tryd.underlying41 rfl (by kernel_rfl)) rfl ?_
         exact ⟨_, _, er_, by (with_reducible repeat (first | apply Kd.R_alloc | apply Kd.R_drewN | apply Kd.R_drew)); exact Kd.R_mono (Kd.R_far (p := ⟨gb107, 4, none⟩) (Kd.R_far (p := ⟨gb107, 3, none⟩) (Kd.R_far (p := ⟨gb107, 2, none⟩) (Kd.R_far (p := ⟨gb107, 1, none⟩) (Kd.R_far (p := ⟨gb107, 0, none⟩) (Kd.R_far (p := ⟨g, 1, none⟩) (Kd.R_types (IsS69.apart HI0.out HO_111001.out (by decide)) BK107.out (by decide)) (fun _ hk => hk.1.2) (.int .i64 (wrap64 (x1001_1 + 1)))) (fun _ hk => hk.2) (.string ((rd_T46 s0_0 s0_1).f1))) (fun _ hk => hk.2) (.slice Ao52 x111001_1.length co52)) (fun _ hk => hk.2) (.bool false)) (fun _ hk => hk.2) (.slice none 0 0)) (fun _ hk => hk.2) (.int .i64 ((rd_T46 s0_0 s0_1).f3))) (fun _ hk => trivial), ni_, is69_3 HI0.out NB0_107.out NB0_110.out NB0_118.out, by repeat (first | (with_reducible first | exact HB.out | apply below_alloc | apply pw_below_drewN | apply below_drew1 | refine below_set ?_ (IsS69.ge HI0.out) | refine below_set ?_ GE107.out | refine below_set ?_ GE110.out | refine below_set ?_ GE118.out) | exact HB.out), by repeat (first | (with_reducible first | exact HK.out | apply KeepBut.set_ | apply keep_drewN | apply keep_drew | apply keep_alloc | refine keep_far ?_ GW107.out _ | refine keep_far ?_ GW110.out _ | refine keep_far ?_ GW118.out _) | exact HK.out)⟩
        ·
         replace c30 := Bool.eq_false_iff.mpr c30
         subst c30
         have H1 : ((parser_sign.f ((rd_T46 s0_0 x1001_1).f0) ((rd_T46 s0_0 x1001_1).f1) ((rd_T46 s0_0 x1001_1).f2) ((rd_T46 s0_0 x1001_1).f3) (⟨#[123]⟩ : ByteArray)).bind fun t120 => (if t120 = true then (parser_parser_entry.j1 EF k1 a1 (a1 == 8) s0_0 x1001_1 s0_2 s0_3 ((rd_T46 s0_0 s0_1).f1) x111001_1 false ((rd_T46 s0_0 s0_1).f3) ((rd_T46 s0_0 x1001_1).f0) ((rd_T46 s0_0 x1001_1).f1) ((rd_T46 s0_0 x1001_1).f2) ((rd_T46 s0_0 x1001_1).f3)) else (parser_parser_entry.j1 EF k1 a1 false s0_0 x1001_1 s0_2 s0_3 ((rd_T46 s0_0 s0_1).f1) x111001_1 false ((rd_T46 s0_0 s0_1).f3) ((rd_T46 s0_0 x1001_1).f0) ((rd_T46 s0_0 x1001_1).f1) ((rd_T46 s0_0 x1001_1).f2) ((rd_T46 s0_0 x1001_1).f3)))) = some (r1, r2, r3, r4, r5, r6, r7, r8) := by rw [if_neg (show ¬ (false = true) by decide)] at H; exact H
         clear H
         have H := H1
         clear H1
         have HC53 := Aside0.mk H
         clear H
         try go_wp2
         refine cut6_ (Kd.R_drew HO_111001.out) (blk_drew BK107.out) (blk_drew BK110.out) (IsS69.drew HI0.out) (keep_drew HK.out) (below_drew1 HB.out) ?_
         clear HO_111001 BK107 BK110 HI0 HK HB
         intro HO_111001 BK107 BK110 HI0 HK HB
         obtain ⟨ASz55_0, cSz55_0, HGz55, hgz55, HSz55_0⟩ := HI0.out
         have hcz55_0 := cellS69_0 HGz55
         have hcz55_1 := cellS69_1 HGz55
         have hcz55_2 := cellS69_2 HGz55
         have hcz55_3 := cellS69_3 HGz55
         have hfz55_1 := blk_frozen HGz55 1
         have hfz55_2 := blk_frozen HGz55 2
         have hfz55_3 := blk_frozen HGz55 3
         clear HGz55 hgz55
         have p111 : 0 ≤ (x1001_1 : Int) := dt_
         have q111 : x1001_1 < (s0_0.length : Int) := dt_
         obtain ⟨ad111, e111, hx111_0, hx111_1, hx111_2, hx111_3⟩ := at_T46 HSz55_0 x1001_1 p111 q111
         have hw111_3 := hx111_3
         have hw111_2 := hx111_2
         have hw111_1 := hx111_1
         have hw111_0 := hx111_0
         cases e111
         replace hx111_0 := pw_cell_below HB.out hx111_0
         replace hx111_1 := pw_cell_below HB.out hx111_1
         replace hx111_2 := pw_cell_below HB.out hx111_2
         replace hx111_3 := pw_cell_below HB.out hx111_3
         replace p111 := eq_true p111
         replace q111 := eq_true q111
         refine start_ (n := 11) (S := fun w' => w'.cell? ⟨g, 0, none⟩ = some (.slice (some ad111) (s0_0).length cSz55_0) ∧ w'.cell? ⟨g, 1, none⟩ = some (.int .i64 x1001_1) ∧ w'.cell? ⟨g, 2, none⟩ = some (.int .i64 s0_2) ∧ w'.cell? ⟨g, 3, none⟩ = some (.int .i64 s0_3) ∧ w'.cell? (ad111.add ((x1001_1).toNat * 4)) = some (.int .i64 ((rd_T46 s0_0 x1001_1).f0)) ∧ w'.cell? ⟨(ad111.add ((x1001_1).toNat * 4)).block, (ad111.add ((x1001_1).toNat * 4)).off + 1, none⟩ = some (.string ((rd_T46 s0_0 x1001_1).f1)) ∧ w'.cell? ⟨(ad111.add ((x1001_1).toNat * 4)).block, (ad111.add ((x1001_1).toNat * 4)).off + 2, none⟩ = some (.int .i64 ((rd_T46 s0_0 x1001_1).f2)) ∧ w'.cell? ⟨(ad111.add ((x1001_1).toNat * 4)).block, (ad111.add ((x1001_1).toNat * 4)).off + 3, none⟩ = some (.int .i64 ((rd_T46 s0_0 x1001_1).f3))) (ds := []) #[false, false, false, false, false, false, false, false, false, false, false] (by kernel_rfl) rfl rfl ⟨hcz55_0, hcz55_1, hcz55_2, hcz55_3, (pw_cell_below HB.out hw111_0), (pw_cell_below HB.out hw111_1), (pw_cell_below HB.out hw111_2), (pw_cell_below HB.out hw111_3)⟩ (fun hHeld => ?_); refine with_tabW parser_parser_entry.tab3 parser_parser_entry.bits3 (fun HT_ HW_ => ?_)
         generalize wr.drew = w54 at HO_111001 BK107 BK110 HI0 HK HB hx111_0 hx111_1 hx111_2 hx111_3 hHeld ⊢
         refine pr_ (i := 0) (N := some 37) #[true, false, false, false, false, false, false, false, false, false, false] (any_of HT_.out (by kernel_rfl)) ?_
         refine pr_ (i := 1) (N := some 38) #[true, true, false, false, false, false, false, false, false, false, false] (any_of HT_.out (by kernel_rfl)) ?_
         refine pr_ (i := 2) (N := some 39) #[true, true, true, false, false, false, false, false, false, false, false] (any_of HT_.out (by kernel_rfl)) ?_
         refine pr_ (i := 4) (N := some 41) #[true, true, true, false, true, false, false, false, false, false, false] (any_of HT_.out (by kernel_rfl)) ?_
         refine pr_ (i := 5) (N := some 42) #[true, true, true, false, true, true, false, false, false, false, false] (any_of HT_.out (by kernel_rfl)) ?_
         refine pr_ (i := 6) (N := some 43) #[true, true, true, false, true, true, true, false, false, false, false] (any_of HT_.out (by kernel_rfl)) ?_
         refine take_ (i := 3) (N := some 40) (v := ?_) (a' := ?_) #[true, true, true, true, true, true, true, false, false, false, false] rfl rfl (take_ofW HT_.out HW_.out (by kernel_rfl)) (fun _ _ _ h => h) (Or.inl ⟨by rfl, ?_⟩) hHeld ?_ ?_
         rotate_left
         ·
          rintro w' ⟨s0, s1, s2, s3, s4, s5, s6, s7⟩
          go_simp
          with_reducible rfl
         rotate_left
         ·
          simp only [Act.put, List.setIfInBounds_toArray, List.set_cons_zero, List.set_cons_succ, i64_w, i32_w]
          rfl
         refine take_ (i := 7) (N := some 44) (v := ?_) (a' := ?_) #[true, true, true, true, true, true, true, true, false, false, false] rfl rfl (take_ofW HT_.out HW_.out (by kernel_rfl)) (fun _ _ _ h => h) (Or.inl ⟨by rfl, ?_⟩) hHeld ?_ ?_
         rotate_left
         ·
          rintro w' ⟨s0, s1, s2, s3, s4, s5, s6, s7⟩
          go_simp
          with_reducible rfl
         rotate_left
         ·
          simp only [Act.put, List.setIfInBounds_toArray, List.set_cons_zero, List.set_cons_succ, i64_w, i32_w]
          rfl
         refine pr_ (i := 8) (N := some 45) #[true, true, true, true, true, true, true, true, true, false, false] (any_of HT_.out (by kernel_rfl)) ?_
         refine take_ (i := 9) (N := some 46) (v := ?_) (a' := ?_) #[true, true, true, true, true, true, true, true, true, true, false] rfl rfl (take_ofW HT_.out HW_.out (by kernel_rfl)) (fun _ _ _ h => h) (Or.inl ⟨by rfl, ?_⟩) hHeld ?_ ?_
         rotate_left
         ·
          rintro w' ⟨s0, s1, s2, s3, s4, s5, s6, s7⟩
          go_simp
          with_reducible rfl
         rotate_left
         ·
          simp only [Act.put, List.setIfInBounds_toArray, List.set_cons_zero, List.set_cons_succ, i64_w, i32_w]
          rfl
         refine one_ (i := 10) (N := some 47) #[true, true, true, true, true, true, true, true, true, true, true] rfl rfl (one_of HT_.out (by kernel_rfl)) (by decide) (fun K hK => ?_)
         refine goes_ Tryd.func85 (by kernel_rfl) rfl #[.agg #[.int .i64 ((rd_T46 s0_0 x1001_1).f0), .string ((rd_T46 s0_0 x1001_1).f1), .int .i64 ((rd_T46 s0_0 x1001_1).f2), .int .i64 ((rd_T46 s0_0 x1001_1).f3)]] (by rfl) rfl rfl ga_ ?_
         with_reducible refine (parser_atom.calls ((rd_T46 s0_0 x1001_1).f0) ((rd_T46 s0_0 x1001_1).f1) ((rd_T46 s0_0 x1001_1).f2) ((rd_T46 s0_0 x1001_1).f3) false _ A17.out).mono ?_
         rintro e w56 ⟨rfl, hb⟩
         have HS0_ := (hb.cell (World.block_lt_of_cell? _ _ (hHeld.1))).trans (hHeld.1)
         have HS1_ := (hb.cell (World.block_lt_of_cell? _ _ (hHeld.2.1))).trans (hHeld.2.1)
         have HS2_ := (hb.cell (World.block_lt_of_cell? _ _ (hHeld.2.2.1))).trans (hHeld.2.2.1)
         have HS3_ := (hb.cell (World.block_lt_of_cell? _ _ (hHeld.2.2.2.1))).trans (hHeld.2.2.2.1)
         refine ⟨_, rfl, ?_⟩
         refine cut6_ (Kd.R_below (rR_ HO_111001.out) hb) (bb_ BK107.out hb) (bb_ BK110.out hb) (IsS69.below (is69_2 HI0.out NB0_107.out NB0_110.out) hb) (KeepBut.trans (kk2_ HK.out GW107.out GW110.out) (KeepBut.of_below hb g none) (.inl rfl)) (below_step (bl3_ HB.out (IsS69.ge HI0.out) GE107.out GE110.out) hb) ?_
         clear HO_111001 BK107 BK110 HI0 HK HB
         intro HO_111001 BK107 BK110 HI0 HK HB
         (try clear hb)
         (try clear hb2)
         (try clear hk)
         (try clear hi)
         refine hK.out _ _ ⟨HS0_, HS1_, HS2_, HS3_, (pw_cell_below HB.out hw111_0), (pw_cell_below HB.out hw111_1), (pw_cell_below HB.out hw111_2), (pw_cell_below HB.out hw111_3)⟩ (fun hHeld => ?_)
         clear hK K
         refine norm_ (a' := ?_) ?_ ?_
         rotate_left
         ·
          show Act.put _ (some 47) _ = _
          simp only [Act.put, List.setIfInBounds_toArray, List.set_cons_zero, List.set_cons_succ, i64_w, i32_w]
          rfl
         refine done_ (done_of HT_.out (by kernel_rfl)) ?_
         try go_wp2
         refine cut6_ (Kd.R_drew HO_111001.out) (blk_drew BK107.out) (blk_drew BK110.out) (IsS69.drew HI0.out) (keep_drew HK.out) (below_drew1 HB.out) ?_
         clear HO_111001 BK107 BK110 HI0 HK HB
         intro HO_111001 BK107 BK110 HI0 HK HB
         obtain ⟨ASz58_0, cSz58_0, HGz58, hgz58, HSz58_0⟩ := HI0.out
         have hcz58_0 := cellS69_0 HGz58
         have hcz58_1 := cellS69_1 HGz58
         have hcz58_2 := cellS69_2 HGz58
         have hcz58_3 := cellS69_3 HGz58
         have hfz58_1 := blk_frozen HGz58 1
         have hfz58_2 := blk_frozen HGz58 2
         have hfz58_3 := blk_frozen HGz58 3
         clear HGz58 hgz58
         have p117 : 0 ≤ (x1001_1 : Int) := dt_
         have q117 : x1001_1 < (s0_0.length : Int) := dt_
         obtain ⟨ad117, e117, hx117_0, hx117_1, hx117_2, hx117_3⟩ := at_T46 HSz58_0 x1001_1 p117 q117
         have hw117_3 := hx117_3
         have hw117_2 := hx117_2
         have hw117_1 := hx117_1
         have hw117_0 := hx117_0
         cases e117
         replace hx117_0 := pw_cell_below HB.out hx117_0
         replace hx117_1 := pw_cell_below HB.out hx117_1
         replace hx117_2 := pw_cell_below HB.out hx117_2
         replace hx117_3 := pw_cell_below HB.out hx117_3
         replace p117 := eq_true p117
         replace q117 := eq_true q117
         refine start_ (n := 12) (S := fun w' => w'.cell? ⟨g, 0, none⟩ = some (.slice (some ad117) (s0_0).length cSz58_0) ∧ w'.cell? ⟨g, 1, none⟩ = some (.int .i64 x1001_1) ∧ w'.cell? ⟨g, 2, none⟩ = some (.int .i64 s0_2) ∧ w'.cell? ⟨g, 3, none⟩ = some (.int .i64 s0_3) ∧ w'.cell? (ad117.add ((x1001_1).toNat * 4)) = some (.int .i64 ((rd_T46 s0_0 x1001_1).f0)) ∧ w'.cell? ⟨(ad117.add ((x1001_1).toNat * 4)).block, (ad117.add ((x1001_1).toNat * 4)).off + 1, none⟩ = some (.string ((rd_T46 s0_0 x1001_1).f1)) ∧ w'.cell? ⟨(ad117.add ((x1001_1).toNat * 4)).block, (ad117.add ((x1001_1).toNat * 4)).off + 2, none⟩ = some (.int .i64 ((rd_T46 s0_0 x1001_1).f2)) ∧ w'.cell? ⟨(ad117.add ((x1001_1).toNat * 4)).block, (ad117.add ((x1001_1).toNat * 4)).off + 3, none⟩ = some (.int .i64 ((rd_T46 s0_0 x1001_1).f3))) (ds := []) #[false, false, false, false, false, false, false, false, false, false, false, false] (by kernel_rfl) rfl rfl ⟨hcz58_0, hcz58_1, hcz58_2, hcz58_3, (pw_cell_below HB.out hw117_0), (pw_cell_below HB.out hw117_1), (pw_cell_below HB.out hw117_2), (pw_cell_below HB.out hw117_3)⟩ (fun hHeld => ?_); refine with_tabW parser_parser_entry.tab6 parser_parser_entry.bits6 (fun HT_ HW_ => ?_)
         generalize w56.drew = w57 at HO_111001 BK107 BK110 HI0 HK HB hx117_0 hx117_1 hx117_2 hx117_3 hHeld ⊢
         refine pr_ (i := 0) (N := some 70) #[true, false, false, false, false, false, false, false, false, false, false, false] (any_of HT_.out (by kernel_rfl)) ?_
         refine pr_ (i := 1) (N := some 71) #[true, true, false, false, false, false, false, false, false, false, false, false] (any_of HT_.out (by kernel_rfl)) ?_
         refine pr_ (i := 2) (N := some 72) #[true, true, true, false, false, false, false, false, false, false, false, false] (any_of HT_.out (by kernel_rfl)) ?_
         refine pr_ (i := 4) (N := some 74) #[true, true, true, false, true, false, false, false, false, false, false, false] (any_of HT_.out (by kernel_rfl)) ?_
         refine pr_ (i := 5) (N := some 75) #[true, true, true, false, true, true, false, false, false, false, false, false] (any_of HT_.out (by kernel_rfl)) ?_
         refine pr_ (i := 6) (N := some 76) #[true, true, true, false, true, true, true, false, false, false, false, false] (any_of HT_.out (by kernel_rfl)) ?_
         refine take_ (i := 3) (N := some 73) (v := ?_) (a' := ?_) #[true, true, true, true, true, true, true, false, false, false, false, false] rfl rfl (take_ofW HT_.out HW_.out (by kernel_rfl)) (fun _ _ _ h => h) (Or.inl ⟨by rfl, ?_⟩) hHeld ?_ ?_
         rotate_left
         ·
          rintro w' ⟨s0, s1, s2, s3, s4, s5, s6, s7⟩
          go_simp
          with_reducible rfl
         rotate_left
         ·
          simp only [Act.put, List.setIfInBounds_toArray, List.set_cons_zero, List.set_cons_succ, i64_w, i32_w]
          rfl
         refine take_ (i := 7) (N := some 77) (v := ?_) (a' := ?_) #[true, true, true, true, true, true, true, true, false, false, false, false] rfl rfl (take_ofW HT_.out HW_.out (by kernel_rfl)) (fun _ _ _ h => h) (Or.inl ⟨by rfl, ?_⟩) hHeld ?_ ?_
         rotate_left
         ·
          rintro w' ⟨s0, s1, s2, s3, s4, s5, s6, s7⟩
          go_simp
          with_reducible rfl
         rotate_left
         ·
          simp only [Act.put, List.setIfInBounds_toArray, List.set_cons_zero, List.set_cons_succ, i64_w, i32_w]
          rfl
         refine pr_ (i := 8) (N := some 78) #[true, true, true, true, true, true, true, true, true, false, false, false] (any_of HT_.out (by kernel_rfl)) ?_
         refine take_ (i := 9) (N := some 79) (v := ?_) (a' := ?_) #[true, true, true, true, true, true, true, true, true, true, false, false] rfl rfl (take_ofW HT_.out HW_.out (by kernel_rfl)) (fun _ _ _ h => h) (Or.inl ⟨by rfl, ?_⟩) hHeld ?_ ?_
         rotate_left
         ·
          rintro w' ⟨s0, s1, s2, s3, s4, s5, s6, s7⟩
          go_simp
          with_reducible rfl
         rotate_left
         ·
          simp only [Act.put, List.setIfInBounds_toArray, List.set_cons_zero, List.set_cons_succ, i64_w, i32_w]
          rfl
         refine one_ (i := 10) (N := some 6) #[true, true, true, true, true, true, true, true, true, true, true, false] rfl rfl (one_of HT_.out (by kernel_rfl)) (by decide) (fun K hK => ?_)
         refine box_step ?hg (N := 6) ?hd (cs := #[.int .i64 0, .string (⟨#[]⟩ : ByteArray), .int .i64 0, .int .i64 0]) (t := 46) ?hr ?_; (case hd => rfl); (case hg => rfl); (case hr => first | (go_simp; done) | (go_simp; rfl))
         intro gb118 hg w59 hbox hb
         have HS0_ := (hb.cell (World.block_lt_of_cell? _ _ (hHeld.1))).trans (hHeld.1)
         have HS1_ := (hb.cell (World.block_lt_of_cell? _ _ (hHeld.2.1))).trans (hHeld.2.1)
         have HS2_ := (hb.cell (World.block_lt_of_cell? _ _ (hHeld.2.2.1))).trans (hHeld.2.2.1)
         have HS3_ := (hb.cell (World.block_lt_of_cell? _ _ (hHeld.2.2.2.1))).trans (hHeld.2.2.2.1)
         refine cut15_ (Kd.R_below (Kd.R_elderB (rR_ HO_111001.out) gb118 (Nat.le_of_eq hg.symm)) hb) (bb_ BK107.out hb) (bb_ BK110.out hb) (IsS69.below (is69_2 HI0.out NB0_107.out NB0_110.out) hb) (KeepBut.trans (kk2_ HK.out GW107.out GW110.out) (KeepBut.of_below hb g none) (.inl rfl)) (below_step (bl3_ HB.out (IsS69.ge HI0.out) GE107.out GE110.out) hb) (hbox) (kz_ hg (kk2_ HK.out GW107.out GW110.out)) ((Nat.le_trans HW0.out (by rw [hg]; exact (keep_size (w := w) (g := g) (row := none) (kk2_ HK.out GW107.out GW110.out)) : w.heap.size ≤ gb118) : w0.heap.size ≤ gb118)) (nl_ hg BK107.out) (ng_ hg BK107.out) (nl_ hg BK110.out) (ng_ hg BK110.out) ((by rw [hg]; exact Nat.ne_of_lt (IsS69.lt (show IsS69 w0 _ g s0_0 x1001_1 s0_2 s0_3 from is69_2 HI0.out NB0_107.out NB0_110.out)) : g ≠ gb118)) ((by rw [hg]; exact Nat.ne_of_gt (IsS69.lt (show IsS69 w0 _ g s0_0 x1001_1 s0_2 s0_3 from is69_2 HI0.out NB0_107.out NB0_110.out)) : gb118 ≠ g)) ?_
         clear HO_111001 BK107 BK110 HI0 HK HB
         intro HO_111001 BK107 BK110 HI0 HK HB BK118 GW118 GE118 NB107_118 NB118_107 NB110_118 NB118_110 NB0_118 NB118_0
         clear hb hbox hg
         refine hK.out _ _ ⟨HS0_, HS1_, HS2_, HS3_, (pw_cell_below HB.out hw117_0), (pw_cell_below HB.out hw117_1), (pw_cell_below HB.out hw117_2), (pw_cell_below HB.out hw117_3)⟩ (fun hHeld => ?_)
         clear hK K
         refine norm_ (a' := ?_) ?_ ?_
         rotate_left
         ·
          show Act.put _ (some 6) _ = _
          simp only [Act.put, List.setIfInBounds_toArray, List.set_cons_zero, List.set_cons_succ, i64_w, i32_w]
          rfl
         refine one_ (i := 11) (N := none) #[true, true, true, true, true, true, true, true, true, true, true, true] rfl rfl (one_of HT_.out (by kernel_rfl)) (by decide) (fun K hK => ?_)
         have hs60 : w59.cell? ⟨gb118, 0, none⟩ = some (.int .i64 0) := (blk_cell BK118.out 0).trans rfl
         have hfs60 := blk_frozen BK118.out 0
         have hns60_0 := NB107_118.out
         have hns60_1 := NB110_118.out
         have hms60_0 := NB118_107.out
         have hms60_1 := NB118_110.out
         have hs61 : w59.cell? ⟨gb118, 1, none⟩ = some (.string (⟨#[]⟩ : ByteArray)) := (blk_cell BK118.out 1).trans rfl
         have hfs61 := blk_frozen BK118.out 1
         have hns61_0 := NB107_118.out
         have hns61_1 := NB110_118.out
         have hms61_0 := NB118_107.out
         have hms61_1 := NB118_110.out
         have hs62 : w59.cell? ⟨gb118, 2, none⟩ = some (.int .i64 0) := (blk_cell BK118.out 2).trans rfl
         have hfs62 := blk_frozen BK118.out 2
         have hns62_0 := NB107_118.out
         have hns62_1 := NB110_118.out
         have hms62_0 := NB118_107.out
         have hms62_1 := NB118_110.out
         have hs63 : w59.cell? ⟨gb118, 3, none⟩ = some (.int .i64 0) := (blk_cell BK118.out 3).trans rfl
         have hfs63 := blk_frozen BK118.out 3
         have hns63_0 := NB107_118.out
         have hns63_1 := NB110_118.out
         have hms63_0 := NB118_107.out
         have hms63_1 := NB118_110.out
         refine skip_ (w1 := ?_) (by rfl) rfl ?_ ?_
         rotate_left
         ·
          go_simp
          rfl
         refine hK.out _ _ ⟨(cf4_ gb118 (fs_ NB0_118.out) hHeld.1), (cf4_ gb118 (fs_ NB0_118.out) hHeld.2.1), (cf4_ gb118 (fs_ NB0_118.out) hHeld.2.2.1), (cf4_ gb118 (fs_ NB0_118.out) hHeld.2.2.2.1), (cf4_ gb118 (fr_ hw117_0 (Nat.le_trans HL.out GW118.out)) hHeld.2.2.2.2.1), (cf4_ gb118 (fr_ hw117_1 (Nat.le_trans HL.out GW118.out)) hHeld.2.2.2.2.2.1), (cf4_ gb118 (fr_ hw117_2 (Nat.le_trans HL.out GW118.out)) hHeld.2.2.2.2.2.2.1), (cf4_ gb118 (fr_ hw117_3 (Nat.le_trans HL.out GW118.out)) hHeld.2.2.2.2.2.2.2)⟩ (fun hHeld => ?_)
         clear hK K
         refine done_ (done_of HT_.out (by kernel_rfl)) ?_
         have hnb64 := NB118_107.out
         have hnc64 := NB107_118.out
         have hnb65 := NB118_110.out
         have hnc65 := NB110_118.out
         have hnb66 := NB118_0.out
         have hnc66 := NB0_118.out
         have hcz67_0 := cz_ (.int .i64 0) BK118.out 0
         have hcz67_1 := cz_ (.string (⟨#[]⟩ : ByteArray)) BK118.out 1
         have hcz67_2 := cz_ (.int .i64 0) BK118.out 2
         have hcz67_3 := cz_ (.int .i64 0) BK118.out 3
         have hfz67_0 := blk_frozen BK118.out 0
         have hfz67_1 := blk_frozen BK118.out 1
         have hfz67_2 := blk_frozen BK118.out 2
         have hfz67_3 := blk_frozen BK118.out 3
         go_upto_region 10 with (first | ((with_reducible refine gate_callee (f := 77) rfl ?_); refine goesL_ (some 84) rfl rfl Tryd.func77 (by kernel_rfl) rfl #[.agg #[.int .i64 ((rd_T46 s0_0 x1001_1).f0), .string ((rd_T46 s0_0 x1001_1).f1), .int .i64 ((rd_T46 s0_0 x1001_1).f2), .int .i64 ((rd_T46 s0_0 x1001_1).f3)], .string (⟨#[59]⟩ : ByteArray)] rfl ga_ ?_; (with_reducible refine (parser_sign.calls ((rd_T46 s0_0 x1001_1).f0) ((rd_T46 s0_0 x1001_1).f1) ((rd_T46 s0_0 x1001_1).f2) ((rd_T46 s0_0 x1001_1).f3) (⟨#[59]⟩ : ByteArray) false _ A29.out).mono ?_); rintro e w68 ⟨rfl, hb⟩; refine ⟨_, rfl, ?_⟩; have n0_ := Aside0.mk (Kd.R_below (rR_ (Kd.R_mono (Kd.R_far (p := ⟨gb118, 3, none⟩) (Kd.R_far (p := ⟨gb118, 2, none⟩) (Kd.R_far (p := ⟨gb118, 1, none⟩) (Kd.R_far (p := ⟨gb118, 0, none⟩) (Kd.R_mono HO_111001.out (fun k_ hk => (⟨hk, hk.2⟩ : _ ∧ k_ ≠ gb118))) (fun _ hk => hk.2) (.int .i64 ((rd_T46 s0_0 x1001_1).f0))) (fun _ hk => hk.2) (.string ((rd_T46 s0_0 x1001_1).f1))) (fun _ hk => hk.2) (.int .i64 ((rd_T46 s0_0 x1001_1).f2))) (fun _ hk => hk.2) (.int .i64 ((rd_T46 s0_0 x1001_1).f3))) (fun _ h_ => h_.1))) hb); have n1_ := Aside0.mk (blk_below (g := gb107) (o := .cells #[.string (⟨#[]⟩ : ByteArray), .slice none 0 0, .bool false, .slice none 0 0, .int .i64 0] 41 (0, 0)) (far4_ (bk_ BK107.out) NB107_118.out) hb); have n2_ := Aside0.mk (blk_below (g := gb110) (o := .cells #[.string ((rd_T46 s0_0 s0_1).f1), u111001, .bool false, .slice none 0 0, .int .i64 ((rd_T46 s0_0 s0_1).f3)] 41 (0, 0)) (far4_ (bk_ BK110.out) NB110_118.out) hb); have n3_ := Aside0.mk (IsS69.below (show IsS69 w0 ((((w59.setCell ⟨gb118, 0, none⟩ (.int .i64 ((rd_T46 s0_0 x1001_1).f0))).setCell ⟨gb118, 1, none⟩ (.string ((rd_T46 s0_0 x1001_1).f1))).setCell ⟨gb118, 2, none⟩ (.int .i64 ((rd_T46 s0_0 x1001_1).f2))).setCell ⟨gb118, 3, none⟩ (.int .i64 ((rd_T46 s0_0 x1001_1).f3))) g s0_0 x1001_1 s0_2 s0_3 from is69_3 HI0.out NB0_107.out NB0_110.out NB0_118.out) hb); have n4_ := Aside0.mk (blk_below (g := gb118) (o := .cells #[.int .i64 ((rd_T46 s0_0 x1001_1).f0), .string ((rd_T46 s0_0 x1001_1).f1), .int .i64 ((rd_T46 s0_0 x1001_1).f2), .int .i64 ((rd_T46 s0_0 x1001_1).f3)] 46 (0, 0)) (put4_ (bk_ BK118.out)) hb); have n5_ := Aside0.mk (KeepBut.trans (kk3_ HK.out GW107.out GW110.out GW118.out) (KeepBut.of_below hb g none) (.inl rfl)); have n6_ := Aside0.mk (below_step (bl4_ HB.out (IsS69.ge HI0.out) GE107.out GE110.out GE118.out) hb); clear HO_111001; clear BK107; clear BK110; clear HI0; clear BK118; clear HK; clear HB; have HO_111001 := n0_; have BK107 := n1_; have BK110 := n2_; have HI0 := n3_; have BK118 := n4_; have HK := n5_; have HB := n6_; clear n0_ n1_ n2_ n3_ n4_ n5_ n6_; (try clear hb); (try clear hb2); (try clear hk); (try clear hi)))
         (try simp only [Act.put, List.setIfInBounds_toArray, List.set_cons_zero, List.set_cons_succ])
         go_cut [92] (fun v92 wc => ∃ (kq : Nat) (x92_52 : Bool), v92 = .bool x92_52 ∧ Aside0 (parser_parser_entry.j1 EF kq a1 x92_52 s0_0 x1001_1 s0_2 s0_3 ((rd_T46 s0_0 s0_1).f1) x111001_1 false ((rd_T46 s0_0 s0_1).f3) ((rd_T46 s0_0 x1001_1).f0) ((rd_T46 s0_0 x1001_1).f1) ((rd_T46 s0_0 x1001_1).f2) ((rd_T46 s0_0 x1001_1).f3) = some (r1, r2, r3, r4, r5, r6, r7, r8)) ∧ Aside0 (kq ≤ k1) ∧ Aside0 (Kd.R k46 46 wc w.heap.size (fun k_ => k_ ≠ gb118) u111001 x111001_1) ∧ Aside0 (wc.heap[gb107]? = some (.cells #[.string (⟨#[]⟩ : ByteArray), (.slice none 0 0), .bool false, (.slice none 0 0), .int .i64 0] 41 (0, 0))) ∧ Aside0 (wc.heap[gb110]? = some (.cells #[.string ((rd_T46 s0_0 s0_1).f1), u111001, .bool false, (.slice none 0 0), .int .i64 ((rd_T46 s0_0 s0_1).f3)] 41 (0, 0))) ∧ Aside0 (wc.heap[gb118]? = some (.cells #[.int .i64 ((rd_T46 s0_0 x1001_1).f0), .string ((rd_T46 s0_0 x1001_1).f1), .int .i64 ((rd_T46 s0_0 x1001_1).f2), .int .i64 ((rd_T46 s0_0 x1001_1).f3)] 46 (0, 0))) ∧ Aside0 (IsS69 w0 wc g s0_0 x1001_1 s0_2 s0_3) ∧ Aside0 (KeepBut w wc g none) ∧ Aside0 (Below w0.heap.size w0 wc))
         case first =>
          have H := HC53.out
          clear HC53
          replace H := Option.bind_eq_some_iff.mp H
          obtain ⟨t120, A690, H⟩ := H
          (try dsimp only at H)
          have A69 := Aside0.mk A690
          clear A690
          by_cases c70 : t120 = true
          ·
           subst c70
           have H1 : (parser_parser_entry.j1 EF k1 a1 (a1 == 8) s0_0 x1001_1 s0_2 s0_3 ((rd_T46 s0_0 s0_1).f1) x111001_1 false ((rd_T46 s0_0 s0_1).f3) ((rd_T46 s0_0 x1001_1).f0) ((rd_T46 s0_0 x1001_1).f1) ((rd_T46 s0_0 x1001_1).f2) ((rd_T46 s0_0 x1001_1).f3)) = some (r1, r2, r3, r4, r5, r6, r7, r8) := by rw [if_pos rfl] at H; exact H
           clear H
           have H := H1
           clear H1
           have H' := Aside0.mk H
           clear H
           have hnb71 := NB118_107.out
           have hnc71 := NB107_118.out
           have hnb72 := NB118_110.out
           have hnc72 := NB110_118.out
           have hnb73 := NB118_0.out
           have hnc73 := NB0_118.out
           have hcz74_0 := cz_ (.int .i64 ((rd_T46 s0_0 x1001_1).f0)) BK118.out 0
           have hcz74_1 := cz_ (.string ((rd_T46 s0_0 x1001_1).f1)) BK118.out 1
           have hcz74_2 := cz_ (.int .i64 ((rd_T46 s0_0 x1001_1).f2)) BK118.out 2
           have hcz74_3 := cz_ (.int .i64 ((rd_T46 s0_0 x1001_1).f3)) BK118.out 3
           have hfz74_0 := blk_frozen BK118.out 0
           have hfz74_1 := blk_frozen BK118.out 1
           have hfz74_2 := blk_frozen BK118.out 2
           have hfz74_3 := blk_frozen BK118.out 3
           go_wp2_with (first | ((with_reducible refine gate_callee (f := 77) rfl ?_); refine goesL_ (some 94) rfl rfl Tryd.func77 (by kernel_rfl) rfl #[.agg #[.int .i64 ((rd_T46 s0_0 x1001_1).f0), .string ((rd_T46 s0_0 x1001_1).f1), .int .i64 ((rd_T46 s0_0 x1001_1).f2), .int .i64 ((rd_T46 s0_0 x1001_1).f3)], .string (⟨#[123]⟩ : ByteArray)] rfl ga_ ?_; (with_reducible refine (parser_sign.calls ((rd_T46 s0_0 x1001_1).f0) ((rd_T46 s0_0 x1001_1).f1) ((rd_T46 s0_0 x1001_1).f2) ((rd_T46 s0_0 x1001_1).f3) (⟨#[123]⟩ : ByteArray) true _ A69.out).mono ?_); rintro e w75 ⟨rfl, hb⟩; refine ⟨_, rfl, ?_⟩; refine cut7_ (Kd.R_below (rR_ HO_111001.out) hb) (bb_ BK107.out hb) (bb_ BK110.out hb) (IsS69.below (is69_3 HI0.out NB0_107.out NB0_110.out NB0_118.out) hb) (bb_ BK118.out hb) (KeepBut.trans (kk3_ HK.out GW107.out GW110.out GW118.out) (KeepBut.of_below hb g none) (.inl rfl)) (below_step (bl4_ HB.out (IsS69.ge HI0.out) GE107.out GE110.out GE118.out) hb) ?_; clear HO_111001 BK107 BK110 HI0 BK118 HK HB; intro HO_111001 BK107 BK110 HI0 BK118 HK HB; (try clear hb); (try clear hb2); (try clear hk); (try clear hi)))
           go_meet
           case rel => exact ⟨_, ((a1 == 8)), sr_, H', ⟨by have := HK1.out; first | omega | exact Nat.le_refl _⟩, ⟨by (with_reducible repeat (first | apply Kd.R_alloc | apply Kd.R_drewN | apply Kd.R_drew)); exact Kd.R_mono HO_111001.out (fun _ hk => hk.2)⟩, ⟨by exact bk_ BK107.out⟩, ⟨by exact bk_ BK110.out⟩, ⟨by exact bk_ BK118.out⟩, ⟨is69_3 HI0.out NB0_107.out NB0_110.out NB0_118.out⟩, ⟨by repeat (first | (with_reducible first | exact HK.out | apply KeepBut.set_ | apply keep_drewN | apply keep_drew | apply keep_alloc | refine keep_far ?_ GW107.out _ | refine keep_far ?_ GW110.out _ | refine keep_far ?_ GW118.out _) | exact HK.out)⟩, ⟨bl4_ HB.out (IsS69.ge HI0.out) GE107.out GE110.out GE118.out⟩⟩
          ·
           replace c70 := Bool.eq_false_iff.mpr c70
           subst c70
           have H1 : (parser_parser_entry.j1 EF k1 a1 false s0_0 x1001_1 s0_2 s0_3 ((rd_T46 s0_0 s0_1).f1) x111001_1 false ((rd_T46 s0_0 s0_1).f3) ((rd_T46 s0_0 x1001_1).f0) ((rd_T46 s0_0 x1001_1).f1) ((rd_T46 s0_0 x1001_1).f2) ((rd_T46 s0_0 x1001_1).f3)) = some (r1, r2, r3, r4, r5, r6, r7, r8) := by rw [if_neg (show ¬ (false = true) by decide)] at H; exact H
           clear H
           have H := H1
           clear H1
           have H' := Aside0.mk H
           clear H
           have hnb76 := NB118_107.out
           have hnc76 := NB107_118.out
           have hnb77 := NB118_110.out
           have hnc77 := NB110_118.out
           have hnb78 := NB118_0.out
           have hnc78 := NB0_118.out
           have hcz79_0 := cz_ (.int .i64 ((rd_T46 s0_0 x1001_1).f0)) BK118.out 0
           have hcz79_1 := cz_ (.string ((rd_T46 s0_0 x1001_1).f1)) BK118.out 1
           have hcz79_2 := cz_ (.int .i64 ((rd_T46 s0_0 x1001_1).f2)) BK118.out 2
           have hcz79_3 := cz_ (.int .i64 ((rd_T46 s0_0 x1001_1).f3)) BK118.out 3
           have hfz79_0 := blk_frozen BK118.out 0
           have hfz79_1 := blk_frozen BK118.out 1
           have hfz79_2 := blk_frozen BK118.out 2
           have hfz79_3 := blk_frozen BK118.out 3
           go_wp2_with (first | ((with_reducible refine gate_callee (f := 77) rfl ?_); refine goesL_ (some 94) rfl rfl Tryd.func77 (by kernel_rfl) rfl #[.agg #[.int .i64 ((rd_T46 s0_0 x1001_1).f0), .string ((rd_T46 s0_0 x1001_1).f1), .int .i64 ((rd_T46 s0_0 x1001_1).f2), .int .i64 ((rd_T46 s0_0 x1001_1).f3)], .string (⟨#[123]⟩ : ByteArray)] rfl ga_ ?_; (with_reducible refine (parser_sign.calls ((rd_T46 s0_0 x1001_1).f0) ((rd_T46 s0_0 x1001_1).f1) ((rd_T46 s0_0 x1001_1).f2) ((rd_T46 s0_0 x1001_1).f3) (⟨#[123]⟩ : ByteArray) false _ A69.out).mono ?_); rintro e w80 ⟨rfl, hb⟩; refine ⟨_, rfl, ?_⟩; refine cut7_ (Kd.R_below (rR_ HO_111001.out) hb) (bb_ BK107.out hb) (bb_ BK110.out hb) (IsS69.below (is69_3 HI0.out NB0_107.out NB0_110.out NB0_118.out) hb) (bb_ BK118.out hb) (KeepBut.trans (kk3_ HK.out GW107.out GW110.out GW118.out) (KeepBut.of_below hb g none) (.inl rfl)) (below_step (bl4_ HB.out (IsS69.ge HI0.out) GE107.out GE110.out GE118.out) hb) ?_; clear HO_111001 BK107 BK110 HI0 BK118 HK HB; intro HO_111001 BK107 BK110 HI0 BK118 HK HB; (try clear hb); (try clear hb2); (try clear hk); (try clear hi)))
           go_meet
           case rel => exact ⟨_, (false), sr_, H', ⟨by have := HK1.out; first | omega | exact Nat.le_refl _⟩, ⟨by (with_reducible repeat (first | apply Kd.R_alloc | apply Kd.R_drewN | apply Kd.R_drew)); exact Kd.R_mono HO_111001.out (fun _ hk => hk.2)⟩, ⟨by exact bk_ BK107.out⟩, ⟨by exact bk_ BK110.out⟩, ⟨by exact bk_ BK118.out⟩, ⟨is69_3 HI0.out NB0_107.out NB0_110.out NB0_118.out⟩, ⟨by repeat (first | (with_reducible first | exact HK.out | apply KeepBut.set_ | apply keep_drewN | apply keep_drew | apply keep_alloc | refine keep_far ?_ GW107.out _ | refine keep_far ?_ GW110.out _ | refine keep_far ?_ GW118.out _) | exact HK.out)⟩, ⟨bl4_ HB.out (IsS69.ge HI0.out) GE107.out GE110.out GE118.out⟩⟩
         case rest =>
          clear HC53
          try clear p1
          try clear q1
          try clear hx1
          try clear p2
          try clear c3
          try clear c4
          try clear c5
          try clear c6
          try clear p6
          try clear c7
          try clear c8
          try clear p11
          try clear q11
          try clear hx11
          try clear c30
          try clear c41
          try clear c42
          try clear c43
          try clear c47
          try clear c48
          try clear c50
          try clear c64
          try clear p64
          try clear c65
          try clear c66
          try clear c70
          try clear c71
          try clear c72
          try clear c73
          try clear c76
          try clear c77
          try clear c78
          try clear hcz44_0
          try clear hcz44_1
          try clear hcz44_2
          try clear hcz44_3
          try clear hcz46_0
          try clear hcz46_1
          try clear hcz46_2
          try clear hcz46_3
          try clear hcz49_0
          try clear hcz49_1
          try clear hcz49_2
          try clear hcz49_3
          try clear hcz49_4
          try clear hcz51_0
          try clear hcz51_1
          try clear hcz51_2
          try clear hcz51_3
          try clear hcz51_4
          try clear hcz55_0
          try clear hcz55_1
          try clear hcz55_2
          try clear hcz55_3
          try clear hcz58_0
          try clear hcz58_1
          try clear hcz58_2
          try clear hcz58_3
          try clear hcz67_0
          try clear hcz67_1
          try clear hcz67_2
          try clear hcz67_3
          try clear hcz74_0
          try clear hcz74_1
          try clear hcz74_2
          try clear hcz74_3
          try clear hcz79_0
          try clear hcz79_1
          try clear hcz79_2
          try clear hcz79_3
          try clear hfz44_0
          try clear hfz44_1
          try clear hfz44_2
          try clear hfz44_3
          try clear hfz46_1
          try clear hfz46_2
          try clear hfz46_3
          try clear hfz49_0
          try clear hfz49_1
          try clear hfz49_2
          try clear hfz49_3
          try clear hfz49_4
          try clear hfz51_0
          try clear hfz51_1
          try clear hfz51_2
          try clear hfz51_3
          try clear hfz51_4
          try clear hfz55_1
          try clear hfz55_2
          try clear hfz55_3
          try clear hfz58_1
          try clear hfz58_2
          try clear hfz58_3
          try clear hfz67_0
          try clear hfz67_1
          try clear hfz67_2
          try clear hfz67_3
          try clear hfz74_0
          try clear hfz74_1
          try clear hfz74_2
          try clear hfz74_3
          try clear hfz79_0
          try clear hfz79_1
          try clear hfz79_2
          try clear hfz79_3
          try clear hx111_0
          try clear hx111_1
          try clear hx111_2
          try clear hx111_3
          try clear hx117_0
          try clear hx117_1
          try clear hx117_2
          try clear hx117_3
          try clear p111
          try clear p117
          try clear q111
          try clear q117
          obtain ⟨kq, x92_52, rfl, HA, HJ52, HO_111001, BK107, BK110, BK118, HI0, HK, HB⟩ := hcut
          cases kq with
          | zero => exact absurd HA.out (by simp [parser_parser_entry.j1])
          | succ kj52 =>
           have H := HA.out
           clear HA
           simp only [parser_parser_entry.j1] at H
           by_cases c81 : x92_52 = true
           ·
            subst c81
            have H1 : ((parser_parser_fail.f s0_0 x1001_1 s0_2 s0_3 6).bind fun bt121 => (some (((rd_T46 s0_0 s0_1).f1), x111001_1, false, ([] : List (S41)), ((rd_T46 s0_0 s0_1).f3), bt121.1, bt121.2.1, bt121.2.2))) = some (r1, r2, r3, r4, r5, r6, r7, r8) := by rw [if_pos rfl] at H; exact H
            clear H
            have H := H1
            clear H1
            replace H := Option.bind_eq_some_iff.mp H
            obtain ⟨⟨t121, t122, t123⟩, A820, H⟩ := H
            (try dsimp only at H)
            have A82 := Aside0.mk A820
            clear A820
            simp only [Option.some.injEq, Prod.mk.injEq] at H
            obtain ⟨rfl, rfl, rfl, rfl, rfl, rfl, rfl, rfl⟩ := H
            go_wp2_with (first | ((with_reducible refine gate_callee (f := 78) rfl ?_); refine goesL_ (some 100) rfl rfl Tryd.func78 (by kernel_rfl) rfl #[.pointer (some ⟨g, 0, none⟩), .int .i64 6] rfl ga_ ?_; (with_reducible refine (parser_parser_fail.calls g s0_0 x1001_1 s0_2 s0_3 6 t121 t122 t123 w0 _ ?side1 ?side2 A82.out).mono ?_); (case side1 => exact is69_3 HI0.out NB0_107.out NB0_110.out NB0_118.out); (case side2 => repeat (first | (with_reducible first | exact HB.out | apply below_alloc | apply pw_below_drewN | apply below_drew1 | refine below_set ?_ (IsS69.ge HI0.out) | refine below_set ?_ GE107.out | refine below_set ?_ GE110.out | refine below_set ?_ GE118.out) | exact HB.out)); rintro e w83 ⟨rfl, hi, hb, hk⟩; refine ⟨_, rfl, ?_⟩; refine cut7_ (Kd.R_mono (Kd.R_keep (IsS69.apart (show IsS69 w0 _ g s0_0 x1001_1 s0_2 s0_3 from is69_3 HI0.out NB0_107.out NB0_110.out NB0_118.out) (rR_ HO_111001.out) (by decide)) hk (fun _ h => h.2)) (fun _ h => h.1)) (KeepBut.blk hk (g' := gb107) (o := .cells #[.string (⟨#[]⟩ : ByteArray), .slice none 0 0, .bool false, .slice none 0 0, .int .i64 0] 41 (0, 0)) (bk_ BK107.out) NB107_0.out (by simp)) (KeepBut.blk hk (g' := gb110) (o := .cells #[.string ((rd_T46 s0_0 s0_1).f1), u111001, .bool false, .slice none 0 0, .int .i64 ((rd_T46 s0_0 s0_1).f3)] 41 (0, 0)) (bk_ BK110.out) NB110_0.out (by simp)) (KeepBut.blk hk (g' := gb118) (o := .cells #[.int .i64 ((rd_T46 s0_0 x1001_1).f0), .string ((rd_T46 s0_0 x1001_1).f1), .int .i64 ((rd_T46 s0_0 x1001_1).f2), .int .i64 ((rd_T46 s0_0 x1001_1).f3)] 46 (0, 0)) (bk_ BK118.out) NB118_0.out (by simp)) (KeepBut.trans (kk3_ HK.out GW107.out GW110.out GW118.out) hk (.inl rfl)) (hb) (hi) ?_; clear HO_111001 BK107 BK110 BK118 HK HB HI0; intro HO_111001 BK107 BK110 BK118 HK HB HI0; (try clear hb); (try clear hb2); (try clear hk); (try clear hi); have hnb84 := NB110_107.out; have hnc84 := NB107_110.out; have hnb85 := NB110_118.out; have hnc85 := NB118_110.out; have hnb86 := NB110_0.out; have hnc86 := NB0_110.out; obtain ⟨hcz87_0, hcz87_1, hcz87_2, hcz87_3, hcz87_4, hfz87_0, hfz87_1, hfz87_2, hfz87_3, hfz87_4⟩ := cq5_ BK110.out; have hnb88 := NB107_118.out; have hnc88 := NB118_107.out; have hnb89 := NB107_0.out; have hnc89 := NB0_107.out; obtain ⟨hcz90_0, hcz90_1, hcz90_2, hcz90_3, hcz90_4, hfz90_0, hfz90_1, hfz90_2, hfz90_3, hfz90_4⟩ := cq5_ BK107.out; obtain ⟨Ao91, co91, eo91⟩ := Kd.R_slice HO_111001.out; subst eo91))
            refine bodyPost_ret (results_cell_row rfl _ _ gb107 41 #[.string ((rd_T46 s0_0 s0_1).f1), .slice Ao91 x111001_1.length co91, .bool false, .slice none 0 0, .int .i64 ((rd_T46 s0_0 s0_1).f3)] (0, 0) _ rfl (by exact put5_ (bk_ BK107.out)) Tryd.underlying41 rfl (by kernel_rfl)) rfl ?_
            exact ⟨_, _, er_, by (with_reducible repeat (first | apply Kd.R_alloc | apply Kd.R_drewN | apply Kd.R_drew)); exact Kd.R_mono (Kd.R_far (p := ⟨gb107, 4, none⟩) (Kd.R_far (p := ⟨gb107, 3, none⟩) (Kd.R_far (p := ⟨gb107, 2, none⟩) (Kd.R_far (p := ⟨gb107, 1, none⟩) (Kd.R_far (p := ⟨gb107, 0, none⟩) (Kd.R_types HO_111001.out BK107.out (by decide)) (fun _ hk => hk.2) (.string ((rd_T46 s0_0 s0_1).f1))) (fun _ hk => hk.2) (.slice Ao91 x111001_1.length co91)) (fun _ hk => hk.2) (.bool false)) (fun _ hk => hk.2) (.slice none 0 0)) (fun _ hk => hk.2) (.int .i64 ((rd_T46 s0_0 s0_1).f3))) (fun _ hk => trivial), ni_, is69_3 HI0.out NB0_107.out NB0_110.out NB0_118.out, by repeat (first | (with_reducible first | exact HB.out | apply below_alloc | apply pw_below_drewN | apply below_drew1 | refine below_set ?_ (IsS69.ge HI0.out) | refine below_set ?_ GE107.out | refine below_set ?_ GE110.out | refine below_set ?_ GE118.out) | exact HB.out), by repeat (first | (with_reducible first | exact HK.out | apply KeepBut.set_ | apply keep_drewN | apply keep_drew | apply keep_alloc | refine keep_far ?_ GW107.out _ | refine keep_far ?_ GW110.out _ | refine keep_far ?_ GW118.out _) | exact HK.out)⟩
           ·
            replace c81 := Bool.eq_false_iff.mpr c81
            subst c81
            have H1 : ((parser_sign.f ((rd_T46 s0_0 x1001_1).f0) ((rd_T46 s0_0 x1001_1).f1) ((rd_T46 s0_0 x1001_1).f2) ((rd_T46 s0_0 x1001_1).f3) (⟨#[123]⟩ : ByteArray)).bind fun t124 => (if t124 = true then ((EF kj52 s0_0 (wrap64 (x1001_1 + 1)) s0_2 s0_3 (wrap64 (a1 + 1))).bind fun bt125 => (if bt125.2.2.1 = 0 then (some (((rd_T46 s0_0 s0_1).f1), x111001_1, true, bt125.1, ((rd_T46 s0_0 s0_1).f3), wrap64 (bt125.2.1 + 1), bt125.2.2.1, bt125.2.2.2)) else (some (((rd_T46 s0_0 s0_1).f1), x111001_1, true, bt125.1, ((rd_T46 s0_0 s0_1).f3), bt125.2.1, bt125.2.2.1, bt125.2.2.2)))) else ((parser_parser_fail.f s0_0 x1001_1 s0_2 s0_3 2).bind fun bt131 => (some (((rd_T46 s0_0 s0_1).f1), x111001_1, false, ([] : List (S41)), ((rd_T46 s0_0 s0_1).f3), bt131.1, bt131.2.1, bt131.2.2))))) = some (r1, r2, r3, r4, r5, r6, r7, r8) := by rw [if_neg (show ¬ (false = true) by decide)] at H; exact H
            clear H
            have H := H1
            clear H1
            replace H := Option.bind_eq_some_iff.mp H
            obtain ⟨t124, A920, H⟩ := H
            (try dsimp only at H)
            have A92 := Aside0.mk A920
            clear A920
            by_cases c93 : t124 = true
            ·
             subst c93
             have H1 : ((EF kj52 s0_0 (wrap64 (x1001_1 + 1)) s0_2 s0_3 (wrap64 (a1 + 1))).bind fun bt125 => (if bt125.2.2.1 = 0 then (some (((rd_T46 s0_0 s0_1).f1), x111001_1, true, bt125.1, ((rd_T46 s0_0 s0_1).f3), wrap64 (bt125.2.1 + 1), bt125.2.2.1, bt125.2.2.2)) else (some (((rd_T46 s0_0 s0_1).f1), x111001_1, true, bt125.1, ((rd_T46 s0_0 s0_1).f3), bt125.2.1, bt125.2.2.1, bt125.2.2.2)))) = some (r1, r2, r3, r4, r5, r6, r7, r8) := by rw [if_pos rfl] at H; exact H
             clear H
             have H := H1
             clear H1
             replace H := Option.bind_eq_some_iff.mp H
             obtain ⟨⟨t125, t128, t129, t130⟩, A940, H⟩ := H
             (try dsimp only at H)
             have A94 := Aside0.mk A940
             clear A940
             by_cases c95 : t129 = 0
             ·
              rw [if_pos c95] at H
              have c95b0 := beq_iff_eq.mpr c95
              have c95b1 := bne_eq_false_iff_eq.mpr c95
              clear c95
              simp only [Option.some.injEq, Prod.mk.injEq] at H
              obtain ⟨rfl, rfl, rfl, rfl, rfl, rfl, rfl, rfl⟩ := H
              have hnb96 := NB118_107.out
              have hnc96 := NB107_118.out
              have hnb97 := NB118_110.out
              have hnc97 := NB110_118.out
              have hnb98 := NB118_0.out
              have hnc98 := NB0_118.out
              have hcz99_0 := cz_ (.int .i64 ((rd_T46 s0_0 x1001_1).f0)) BK118.out 0
              have hcz99_1 := cz_ (.string ((rd_T46 s0_0 x1001_1).f1)) BK118.out 1
              have hcz99_2 := cz_ (.int .i64 ((rd_T46 s0_0 x1001_1).f2)) BK118.out 2
              have hcz99_3 := cz_ (.int .i64 ((rd_T46 s0_0 x1001_1).f3)) BK118.out 3
              have hfz99_0 := blk_frozen BK118.out 0
              have hfz99_1 := blk_frozen BK118.out 1
              have hfz99_2 := blk_frozen BK118.out 2
              have hfz99_3 := blk_frozen BK118.out 3
              go_wp2_with (first | ((with_reducible refine gate_callee (f := 77) rfl ?_); refine goesL_ (some 103) rfl rfl Tryd.func77 (by kernel_rfl) rfl #[.agg #[.int .i64 ((rd_T46 s0_0 x1001_1).f0), .string ((rd_T46 s0_0 x1001_1).f1), .int .i64 ((rd_T46 s0_0 x1001_1).f2), .int .i64 ((rd_T46 s0_0 x1001_1).f3)], .string (⟨#[123]⟩ : ByteArray)] rfl ga_ ?_; (with_reducible refine (parser_sign.calls ((rd_T46 s0_0 x1001_1).f0) ((rd_T46 s0_0 x1001_1).f1) ((rd_T46 s0_0 x1001_1).f2) ((rd_T46 s0_0 x1001_1).f3) (⟨#[123]⟩ : ByteArray) true _ A92.out).mono ?_); rintro e w100 ⟨rfl, hb⟩; refine ⟨_, rfl, ?_⟩; refine cut7_ (Kd.R_below (rR_ HO_111001.out) hb) (bb_ BK107.out hb) (bb_ BK110.out hb) (bb_ BK118.out hb) (IsS69.below (is69_3 HI0.out NB0_107.out NB0_110.out NB0_118.out) hb) (KeepBut.trans (kk3_ HK.out GW107.out GW110.out GW118.out) (KeepBut.of_below hb g none) (.inl rfl)) (below_step (bl4_ HB.out (IsS69.ge HI0.out) GE107.out GE110.out GE118.out) hb) ?_; clear HO_111001 BK107 BK110 BK118 HI0 HK HB; intro HO_111001 BK107 BK110 BK118 HI0 HK HB; (try clear hb); (try clear hb2); (try clear hk); (try clear hi); obtain ⟨ASz101_0, cSz101_0, HGz101, hgz101, HSz101_0⟩ := HI0.out; have hcz101_0 := cellS69_0 HGz101; have hcz101_1 := cellS69_1 HGz101; have hcz101_2 := cellS69_2 HGz101; have hcz101_3 := cellS69_3 HGz101; have hfz101_1 := blk_frozen HGz101 1; have hfz101_2 := blk_frozen HGz101 2; have hfz101_3 := blk_frozen HGz101 3; clear HGz101 hgz101; have hnb102 := NB110_107.out; have hnc102 := NB107_110.out; have hnb103 := NB110_0.out; have hnc103 := NB0_110.out; obtain ⟨hcz104_0, hcz104_1, hcz104_2, hcz104_3, hcz104_4, hfz104_0, hfz104_1, hfz104_2, hfz104_3, hfz104_4⟩ := cq5_ BK110.out) | ((with_reducible refine gate_callee (f := 52) rfl ?_); refine goesL_ (some 115) rfl rfl Tryd.func52 (by kernel_rfl) rfl #[.pointer (some ⟨g, 0, none⟩), .int .i64 (wrap64 (a1 + 1))] rfl ga_ ?_; (with_reducible refine (hEF kj52 g s0_0 (wrap64 (x1001_1 + 1)) s0_2 s0_3 (wrap64 (a1 + 1)) t125 t128 t129 t130 w0 _ ?side1 ?side2 A94.out).mono ?_); (case side1 => exact is69_3 HI0.out NB0_107.out NB0_110.out NB0_118.out); (case side2 => repeat (first | (with_reducible first | exact HB.out | apply below_alloc | apply pw_below_drewN | apply below_drew1 | refine below_set ?_ (IsS69.ge HI0.out) | refine below_set ?_ GE107.out | refine below_set ?_ GE110.out | refine below_set ?_ GE118.out) | exact HB.out)); rintro e w105 ⟨v126, rfl, ho0, hi, hb, hk⟩; refine ⟨_, rfl, ?_⟩; refine cut8_ (Kd.R_mono (Kd.R_keep (IsS69.apart (show IsS69 w0 _ g s0_0 (wrap64 (x1001_1 + 1)) s0_2 s0_3 from is69_3 HI0.out NB0_107.out NB0_110.out NB0_118.out) (rR_ (Kd.R_mono (Kd.R_mono (Kd.R_far (p := ⟨gb110, 2, none⟩) (Kd.R_far (p := ⟨g, 1, none⟩) (Kd.R_types (IsS69.apart HI0.out HO_111001.out (by decide)) BK110.out (by decide)) (fun _ hk => hk.1.2) (.int .i64 (wrap64 (x1001_1 + 1)))) (fun _ hk => hk.2) (.bool true)) (fun _ h_ => h_.1)) (fun _ h_ => h_.1))) (by decide)) hk (fun _ h => h.2)) (fun _ h => h.1)) (KeepBut.blk hk (g' := gb107) (o := .cells #[.string (⟨#[]⟩ : ByteArray), .slice none 0 0, .bool false, .slice none 0 0, .int .i64 0] 41 (0, 0)) (by exact far1_ (far1_ (bk_ BK107.out) NB107_0.out) NB107_110.out) NB107_0.out (by simp)) (KeepBut.blk hk (g' := gb110) (o := .cells #[.string ((rd_T46 s0_0 s0_1).f1), u111001, .bool true, .slice none 0 0, .int .i64 ((rd_T46 s0_0 s0_1).f3)] 41 (0, 0)) (by refine blk_put (cs := #[.string ((rd_T46 s0_0 s0_1).f1), u111001, .bool false, .slice none 0 0, .int .i64 ((rd_T46 s0_0 s0_1).f3)]) ?_ 2 _ rfl; exact far1_ (bk_ BK110.out) NB110_0.out) NB110_0.out (by simp)) (KeepBut.blk hk (g' := gb118) (o := .cells #[.int .i64 ((rd_T46 s0_0 x1001_1).f0), .string ((rd_T46 s0_0 x1001_1).f1), .int .i64 ((rd_T46 s0_0 x1001_1).f2), .int .i64 ((rd_T46 s0_0 x1001_1).f3)] 46 (0, 0)) (by exact far1_ (far1_ (bk_ BK118.out) NB118_0.out) NB118_110.out) NB118_0.out (by simp)) (Kd.R_lower (Kd.R_newB (Kd.R_newB (Kd.R_newB (Kd.R_new' ho0 (Kd.R_lt (rR_ (Kd.R_mono (Kd.R_mono (Kd.R_far (p := ⟨gb110, 2, none⟩) (Kd.R_far (p := ⟨g, 1, none⟩) (Kd.R_types (IsS69.apart HI0.out HO_111001.out (by decide)) BK110.out (by decide)) (fun _ hk => hk.1.2) (.int .i64 (wrap64 (x1001_1 + 1)))) (fun _ hk => hk.2) (.bool true)) (fun _ h_ => h_.1)) (fun _ h_ => h_.1))))) (g := gb107) (o := .cells #[.string (⟨#[]⟩ : ByteArray), .slice none 0 0, .bool false, .slice none 0 0, .int .i64 0] 41 (0, 0)) (by exact far1_ (far1_ (bk_ BK107.out) NB107_0.out) NB107_110.out)) (g := gb110) (o := .cells #[.string ((rd_T46 s0_0 s0_1).f1), u111001, .bool true, .slice none 0 0, .int .i64 ((rd_T46 s0_0 s0_1).f3)] 41 (0, 0)) (by refine blk_put (cs := #[.string ((rd_T46 s0_0 s0_1).f1), u111001, .bool false, .slice none 0 0, .int .i64 ((rd_T46 s0_0 s0_1).f3)]) ?_ 2 _ rfl; exact far1_ (bk_ BK110.out) NB110_0.out)) (g := gb118) (o := .cells #[.int .i64 ((rd_T46 s0_0 x1001_1).f0), .string ((rd_T46 s0_0 x1001_1).f1), .int .i64 ((rd_T46 s0_0 x1001_1).f2), .int .i64 ((rd_T46 s0_0 x1001_1).f3)] 46 (0, 0)) (by exact far1_ (far1_ (bk_ BK118.out) NB118_0.out) NB118_110.out)) (keep_size (w := w) (g := g) (row := none) (kk3_ HK.out GW107.out GW110.out GW118.out))) (KeepBut.trans (kk3_ HK.out GW107.out GW110.out GW118.out) hk (.inl rfl)) (hb) (hi) ?_; clear HO_111001 BK107 BK110 BK118 HK HB HI0; intro HO_111001 BK107 BK110 BK118 HO127 HK HB HI0; (try clear hb); (try clear hb2); (try clear hk); (try clear hi); (try clear ho0); obtain ⟨Ao106, co106, eo106⟩ := Kd.R_slice HO127.out; subst eo106; obtain ⟨hcz107_0, hcz107_1, hcz107_2, hcz107_3, hcz107_4, hfz107_0, hfz107_1, hfz107_2, hfz107_3, hfz107_4⟩ := cq5_ BK110.out; obtain ⟨ASz108_0, cSz108_0, HGz108, hgz108, HSz108_0⟩ := HI0.out; have hcz108_0 := cellS69_0 HGz108; have hcz108_1 := cellS69_1 HGz108; have hcz108_2 := cellS69_2 HGz108; have hcz108_3 := cellS69_3 HGz108; have hfz108_1 := blk_frozen HGz108 1; have hfz108_2 := blk_frozen HGz108 2; have hfz108_3 := blk_frozen HGz108 3; clear HGz108 hgz108; have hnb109 := NB107_0.out; have hnc109 := NB0_107.out; obtain ⟨hcz110_0, hcz110_1, hcz110_2, hcz110_3, hcz110_4, hfz110_0, hfz110_1, hfz110_2, hfz110_3, hfz110_4⟩ := cq5_ BK107.out; obtain ⟨Ao111, co111, eo111⟩ := Kd.R_slice HO_111001.out; subst eo111))
              refine bodyPost_ret (results_cell_row rfl _ _ gb107 41 #[.string ((rd_T46 s0_0 s0_1).f1), .slice Ao111 x111001_1.length co111, .bool true, .slice Ao106 t125.length co106, .int .i64 ((rd_T46 s0_0 s0_1).f3)] (0, 0) _ rfl (by refine blk_put (cs := #[.string ((rd_T46 s0_0 s0_1).f1), .slice Ao111 x111001_1.length co111, .bool true, .slice Ao106 t125.length co106, .int .i64 0]) ?_ 4 _ rfl; refine blk_put (cs := #[.string ((rd_T46 s0_0 s0_1).f1), .slice Ao111 x111001_1.length co111, .bool true, .slice none 0 0, .int .i64 0]) ?_ 3 _ rfl; refine blk_put (cs := #[.string ((rd_T46 s0_0 s0_1).f1), .slice Ao111 x111001_1.length co111, .bool false, .slice none 0 0, .int .i64 0]) ?_ 2 _ rfl; refine blk_put (cs := #[.string ((rd_T46 s0_0 s0_1).f1), .slice none 0 0, .bool false, .slice none 0 0, .int .i64 0]) ?_ 1 _ rfl; refine blk_put (cs := #[.string (⟨#[]⟩ : ByteArray), .slice none 0 0, .bool false, .slice none 0 0, .int .i64 0]) ?_ 0 _ rfl; exact far1_ (far1_ (bk_ BK107.out) NB107_110.out) NB107_0.out) Tryd.underlying41 rfl (by kernel_rfl)) rfl ?_
              exact ⟨_, _, er_, by (with_reducible repeat (first | apply Kd.R_alloc | apply Kd.R_drewN | apply Kd.R_drew)); exact Kd.R_mono (Kd.R_far (p := ⟨gb107, 4, none⟩) (Kd.R_far (p := ⟨gb107, 3, none⟩) (Kd.R_far (p := ⟨gb107, 2, none⟩) (Kd.R_far (p := ⟨gb107, 1, none⟩) (Kd.R_far (p := ⟨gb107, 0, none⟩) (Kd.R_far (p := ⟨g, 1, none⟩) (Kd.R_far (p := ⟨gb110, 3, none⟩) (Kd.R_types (IsS69.apart HI0.out (Kd.R_types HO_111001.out BK110.out (by decide)) (by decide)) BK107.out (by decide)) (fun _ hk => hk.1.1.2) (.slice Ao106 t125.length co106)) (fun _ hk => hk.1.2) (.int .i64 (wrap64 (t128 + 1)))) (fun _ hk => hk.2) (.string ((rd_T46 s0_0 s0_1).f1))) (fun _ hk => hk.2) (.slice Ao111 x111001_1.length co111)) (fun _ hk => hk.2) (.bool true)) (fun _ hk => hk.2) (.slice Ao106 t125.length co106)) (fun _ hk => hk.2) (.int .i64 ((rd_T46 s0_0 s0_1).f3))) (fun _ hk => trivial), by (with_reducible repeat (first | apply Kd.R_alloc | apply Kd.R_drewN | apply Kd.R_drew)); exact Kd.R_mono (Kd.R_far (p := ⟨gb107, 4, none⟩) (Kd.R_far (p := ⟨gb107, 3, none⟩) (Kd.R_far (p := ⟨gb107, 2, none⟩) (Kd.R_far (p := ⟨gb107, 1, none⟩) (Kd.R_far (p := ⟨gb107, 0, none⟩) (Kd.R_far (p := ⟨g, 1, none⟩) (Kd.R_far (p := ⟨gb110, 3, none⟩) (Kd.R_mono (IsS69.apart HI0.out (Kd.R_mono HO127.out (fun k_ hk => (⟨hk, hk.1.2⟩ : _ ∧ k_ ≠ gb110))) (by decide)) (fun k_ hk => (⟨hk, hk.1.1.1.1.2⟩ : _ ∧ k_ ≠ gb107))) (fun _ hk => hk.1.1.2) (.slice Ao106 t125.length co106)) (fun _ hk => hk.1.2) (.int .i64 (wrap64 (t128 + 1)))) (fun _ hk => hk.2) (.string ((rd_T46 s0_0 s0_1).f1))) (fun _ hk => hk.2) (.slice Ao111 x111001_1.length co111)) (fun _ hk => hk.2) (.bool true)) (fun _ hk => hk.2) (.slice Ao106 t125.length co106)) (fun _ hk => hk.2) (.int .i64 ((rd_T46 s0_0 s0_1).f3))) (fun _ hk => hk.1.1.1.1.1.1.2), (by have h_ := IsS69.set_1 (IsS69.far (p := ⟨gb110, 3, none⟩) HI0.out NB0_110.out (.slice Ao106 t125.length co106)) (wrap64 (t128 + 1)); exact IsS69.far (p := ⟨gb107, 4, none⟩) (IsS69.far (p := ⟨gb107, 3, none⟩) (IsS69.far (p := ⟨gb107, 2, none⟩) (IsS69.far (p := ⟨gb107, 1, none⟩) (IsS69.far (p := ⟨gb107, 0, none⟩) h_ NB0_107.out _) NB0_107.out _) NB0_107.out _) NB0_107.out _) NB0_107.out _), by repeat (first | (with_reducible first | exact HB.out | apply below_alloc | apply pw_below_drewN | apply below_drew1 | refine below_set ?_ (IsS69.ge HI0.out) | refine below_set ?_ GE107.out | refine below_set ?_ GE110.out | refine below_set ?_ GE118.out) | exact HB.out), by repeat (first | (with_reducible first | exact HK.out | apply KeepBut.set_ | apply keep_drewN | apply keep_drew | apply keep_alloc | refine keep_far ?_ GW107.out _ | refine keep_far ?_ GW110.out _ | refine keep_far ?_ GW118.out _) | exact HK.out)⟩
             ·
              rw [if_neg c95] at H
              have c95b0 := beq_eq_false_iff_ne.mpr c95
              have c95b1 := bne_iff_ne.mpr c95
              simp only [Option.some.injEq, Prod.mk.injEq] at H
              obtain ⟨rfl, rfl, rfl, rfl, rfl, rfl, rfl, rfl⟩ := H
              have hnb112 := NB118_107.out
              have hnc112 := NB107_118.out
              have hnb113 := NB118_110.out
              have hnc113 := NB110_118.out
              have hnb114 := NB118_0.out
              have hnc114 := NB0_118.out
              have hcz115_0 := cz_ (.int .i64 ((rd_T46 s0_0 x1001_1).f0)) BK118.out 0
              have hcz115_1 := cz_ (.string ((rd_T46 s0_0 x1001_1).f1)) BK118.out 1
              have hcz115_2 := cz_ (.int .i64 ((rd_T46 s0_0 x1001_1).f2)) BK118.out 2
              have hcz115_3 := cz_ (.int .i64 ((rd_T46 s0_0 x1001_1).f3)) BK118.out 3
              have hfz115_0 := blk_frozen BK118.out 0
              have hfz115_1 := blk_frozen BK118.out 1
              have hfz115_2 := blk_frozen BK118.out 2
              have hfz115_3 := blk_frozen BK118.out 3
              go_wp2_with (first | ((with_reducible refine gate_callee (f := 77) rfl ?_); refine goesL_ (some 103) rfl rfl Tryd.func77 (by kernel_rfl) rfl #[.agg #[.int .i64 ((rd_T46 s0_0 x1001_1).f0), .string ((rd_T46 s0_0 x1001_1).f1), .int .i64 ((rd_T46 s0_0 x1001_1).f2), .int .i64 ((rd_T46 s0_0 x1001_1).f3)], .string (⟨#[123]⟩ : ByteArray)] rfl ga_ ?_; (with_reducible refine (parser_sign.calls ((rd_T46 s0_0 x1001_1).f0) ((rd_T46 s0_0 x1001_1).f1) ((rd_T46 s0_0 x1001_1).f2) ((rd_T46 s0_0 x1001_1).f3) (⟨#[123]⟩ : ByteArray) true _ A92.out).mono ?_); rintro e w116 ⟨rfl, hb⟩; refine ⟨_, rfl, ?_⟩; refine cut7_ (Kd.R_below (rR_ HO_111001.out) hb) (bb_ BK107.out hb) (bb_ BK110.out hb) (bb_ BK118.out hb) (IsS69.below (is69_3 HI0.out NB0_107.out NB0_110.out NB0_118.out) hb) (KeepBut.trans (kk3_ HK.out GW107.out GW110.out GW118.out) (KeepBut.of_below hb g none) (.inl rfl)) (below_step (bl4_ HB.out (IsS69.ge HI0.out) GE107.out GE110.out GE118.out) hb) ?_; clear HO_111001 BK107 BK110 BK118 HI0 HK HB; intro HO_111001 BK107 BK110 BK118 HI0 HK HB; (try clear hb); (try clear hb2); (try clear hk); (try clear hi); obtain ⟨ASz117_0, cSz117_0, HGz117, hgz117, HSz117_0⟩ := HI0.out; have hcz117_0 := cellS69_0 HGz117; have hcz117_1 := cellS69_1 HGz117; have hcz117_2 := cellS69_2 HGz117; have hcz117_3 := cellS69_3 HGz117; have hfz117_1 := blk_frozen HGz117 1; have hfz117_2 := blk_frozen HGz117 2; have hfz117_3 := blk_frozen HGz117 3; clear HGz117 hgz117; have hnb118 := NB110_107.out; have hnc118 := NB107_110.out; have hnb119 := NB110_0.out; have hnc119 := NB0_110.out; obtain ⟨hcz120_0, hcz120_1, hcz120_2, hcz120_3, hcz120_4, hfz120_0, hfz120_1, hfz120_2, hfz120_3, hfz120_4⟩ := cq5_ BK110.out) | ((with_reducible refine gate_callee (f := 52) rfl ?_); refine goesL_ (some 115) rfl rfl Tryd.func52 (by kernel_rfl) rfl #[.pointer (some ⟨g, 0, none⟩), .int .i64 (wrap64 (a1 + 1))] rfl ga_ ?_; (with_reducible refine (hEF kj52 g s0_0 (wrap64 (x1001_1 + 1)) s0_2 s0_3 (wrap64 (a1 + 1)) t125 t128 t129 t130 w0 _ ?side1 ?side2 A94.out).mono ?_); (case side1 => exact is69_3 HI0.out NB0_107.out NB0_110.out NB0_118.out); (case side2 => repeat (first | (with_reducible first | exact HB.out | apply below_alloc | apply pw_below_drewN | apply below_drew1 | refine below_set ?_ (IsS69.ge HI0.out) | refine below_set ?_ GE107.out | refine below_set ?_ GE110.out | refine below_set ?_ GE118.out) | exact HB.out)); rintro e w121 ⟨v126, rfl, ho0, hi, hb, hk⟩; refine ⟨_, rfl, ?_⟩; refine cut8_ (Kd.R_mono (Kd.R_keep (IsS69.apart (show IsS69 w0 _ g s0_0 (wrap64 (x1001_1 + 1)) s0_2 s0_3 from is69_3 HI0.out NB0_107.out NB0_110.out NB0_118.out) (rR_ (Kd.R_mono (Kd.R_mono (Kd.R_far (p := ⟨gb110, 2, none⟩) (Kd.R_far (p := ⟨g, 1, none⟩) (Kd.R_types (IsS69.apart HI0.out HO_111001.out (by decide)) BK110.out (by decide)) (fun _ hk => hk.1.2) (.int .i64 (wrap64 (x1001_1 + 1)))) (fun _ hk => hk.2) (.bool true)) (fun _ h_ => h_.1)) (fun _ h_ => h_.1))) (by decide)) hk (fun _ h => h.2)) (fun _ h => h.1)) (KeepBut.blk hk (g' := gb107) (o := .cells #[.string (⟨#[]⟩ : ByteArray), .slice none 0 0, .bool false, .slice none 0 0, .int .i64 0] 41 (0, 0)) (by exact far1_ (far1_ (bk_ BK107.out) NB107_0.out) NB107_110.out) NB107_0.out (by simp)) (KeepBut.blk hk (g' := gb110) (o := .cells #[.string ((rd_T46 s0_0 s0_1).f1), u111001, .bool true, .slice none 0 0, .int .i64 ((rd_T46 s0_0 s0_1).f3)] 41 (0, 0)) (by refine blk_put (cs := #[.string ((rd_T46 s0_0 s0_1).f1), u111001, .bool false, .slice none 0 0, .int .i64 ((rd_T46 s0_0 s0_1).f3)]) ?_ 2 _ rfl; exact far1_ (bk_ BK110.out) NB110_0.out) NB110_0.out (by simp)) (KeepBut.blk hk (g' := gb118) (o := .cells #[.int .i64 ((rd_T46 s0_0 x1001_1).f0), .string ((rd_T46 s0_0 x1001_1).f1), .int .i64 ((rd_T46 s0_0 x1001_1).f2), .int .i64 ((rd_T46 s0_0 x1001_1).f3)] 46 (0, 0)) (by exact far1_ (far1_ (bk_ BK118.out) NB118_0.out) NB118_110.out) NB118_0.out (by simp)) (Kd.R_lower (Kd.R_newB (Kd.R_newB (Kd.R_newB (Kd.R_new' ho0 (Kd.R_lt (rR_ (Kd.R_mono (Kd.R_mono (Kd.R_far (p := ⟨gb110, 2, none⟩) (Kd.R_far (p := ⟨g, 1, none⟩) (Kd.R_types (IsS69.apart HI0.out HO_111001.out (by decide)) BK110.out (by decide)) (fun _ hk => hk.1.2) (.int .i64 (wrap64 (x1001_1 + 1)))) (fun _ hk => hk.2) (.bool true)) (fun _ h_ => h_.1)) (fun _ h_ => h_.1))))) (g := gb107) (o := .cells #[.string (⟨#[]⟩ : ByteArray), .slice none 0 0, .bool false, .slice none 0 0, .int .i64 0] 41 (0, 0)) (by exact far1_ (far1_ (bk_ BK107.out) NB107_0.out) NB107_110.out)) (g := gb110) (o := .cells #[.string ((rd_T46 s0_0 s0_1).f1), u111001, .bool true, .slice none 0 0, .int .i64 ((rd_T46 s0_0 s0_1).f3)] 41 (0, 0)) (by refine blk_put (cs := #[.string ((rd_T46 s0_0 s0_1).f1), u111001, .bool false, .slice none 0 0, .int .i64 ((rd_T46 s0_0 s0_1).f3)]) ?_ 2 _ rfl; exact far1_ (bk_ BK110.out) NB110_0.out)) (g := gb118) (o := .cells #[.int .i64 ((rd_T46 s0_0 x1001_1).f0), .string ((rd_T46 s0_0 x1001_1).f1), .int .i64 ((rd_T46 s0_0 x1001_1).f2), .int .i64 ((rd_T46 s0_0 x1001_1).f3)] 46 (0, 0)) (by exact far1_ (far1_ (bk_ BK118.out) NB118_0.out) NB118_110.out)) (keep_size (w := w) (g := g) (row := none) (kk3_ HK.out GW107.out GW110.out GW118.out))) (KeepBut.trans (kk3_ HK.out GW107.out GW110.out GW118.out) hk (.inl rfl)) (hb) (hi) ?_; clear HO_111001 BK107 BK110 BK118 HK HB HI0; intro HO_111001 BK107 BK110 BK118 HO127 HK HB HI0; (try clear hb); (try clear hb2); (try clear hk); (try clear hi); (try clear ho0); obtain ⟨Ao122, co122, eo122⟩ := Kd.R_slice HO127.out; subst eo122; obtain ⟨hcz123_0, hcz123_1, hcz123_2, hcz123_3, hcz123_4, hfz123_0, hfz123_1, hfz123_2, hfz123_3, hfz123_4⟩ := cq5_ BK110.out; obtain ⟨ASz124_0, cSz124_0, HGz124, hgz124, HSz124_0⟩ := HI0.out; have hcz124_0 := cellS69_0 HGz124; have hcz124_1 := cellS69_1 HGz124; have hcz124_2 := cellS69_2 HGz124; have hcz124_3 := cellS69_3 HGz124; have hfz124_1 := blk_frozen HGz124 1; have hfz124_2 := blk_frozen HGz124 2; have hfz124_3 := blk_frozen HGz124 3; clear HGz124 hgz124; have hnb125 := NB107_0.out; have hnc125 := NB0_107.out; obtain ⟨hcz126_0, hcz126_1, hcz126_2, hcz126_3, hcz126_4, hfz126_0, hfz126_1, hfz126_2, hfz126_3, hfz126_4⟩ := cq5_ BK107.out; obtain ⟨Ao127, co127, eo127⟩ := Kd.R_slice HO_111001.out; subst eo127))
              refine bodyPost_ret (results_cell_row rfl _ _ gb107 41 #[.string ((rd_T46 s0_0 s0_1).f1), .slice Ao127 x111001_1.length co127, .bool true, .slice Ao122 t125.length co122, .int .i64 ((rd_T46 s0_0 s0_1).f3)] (0, 0) _ rfl (by refine blk_put (cs := #[.string ((rd_T46 s0_0 s0_1).f1), .slice Ao127 x111001_1.length co127, .bool true, .slice Ao122 t125.length co122, .int .i64 0]) ?_ 4 _ rfl; refine blk_put (cs := #[.string ((rd_T46 s0_0 s0_1).f1), .slice Ao127 x111001_1.length co127, .bool true, .slice none 0 0, .int .i64 0]) ?_ 3 _ rfl; refine blk_put (cs := #[.string ((rd_T46 s0_0 s0_1).f1), .slice Ao127 x111001_1.length co127, .bool false, .slice none 0 0, .int .i64 0]) ?_ 2 _ rfl; refine blk_put (cs := #[.string ((rd_T46 s0_0 s0_1).f1), .slice none 0 0, .bool false, .slice none 0 0, .int .i64 0]) ?_ 1 _ rfl; refine blk_put (cs := #[.string (⟨#[]⟩ : ByteArray), .slice none 0 0, .bool false, .slice none 0 0, .int .i64 0]) ?_ 0 _ rfl; exact far1_ (bk_ BK107.out) NB107_110.out) Tryd.underlying41 rfl (by kernel_rfl)) rfl ?_
              exact ⟨_, _, er_, by (with_reducible repeat (first | apply Kd.R_alloc | apply Kd.R_drewN | apply Kd.R_drew)); exact Kd.R_mono (Kd.R_far (p := ⟨gb107, 4, none⟩) (Kd.R_far (p := ⟨gb107, 3, none⟩) (Kd.R_far (p := ⟨gb107, 2, none⟩) (Kd.R_far (p := ⟨gb107, 1, none⟩) (Kd.R_far (p := ⟨gb107, 0, none⟩) (Kd.R_far (p := ⟨gb110, 3, none⟩) (Kd.R_types (Kd.R_types HO_111001.out BK110.out (by decide)) BK107.out (by decide)) (fun _ hk => hk.1.2) (.slice Ao122 t125.length co122)) (fun _ hk => hk.2) (.string ((rd_T46 s0_0 s0_1).f1))) (fun _ hk => hk.2) (.slice Ao127 x111001_1.length co127)) (fun _ hk => hk.2) (.bool true)) (fun _ hk => hk.2) (.slice Ao122 t125.length co122)) (fun _ hk => hk.2) (.int .i64 ((rd_T46 s0_0 s0_1).f3))) (fun _ hk => trivial), by (with_reducible repeat (first | apply Kd.R_alloc | apply Kd.R_drewN | apply Kd.R_drew)); exact Kd.R_mono (Kd.R_far (p := ⟨gb107, 4, none⟩) (Kd.R_far (p := ⟨gb107, 3, none⟩) (Kd.R_far (p := ⟨gb107, 2, none⟩) (Kd.R_far (p := ⟨gb107, 1, none⟩) (Kd.R_far (p := ⟨gb107, 0, none⟩) (Kd.R_far (p := ⟨gb110, 3, none⟩) (Kd.R_mono (Kd.R_mono HO127.out (fun k_ hk => (⟨hk, hk.1.2⟩ : _ ∧ k_ ≠ gb110))) (fun k_ hk => (⟨hk, hk.1.1.1.2⟩ : _ ∧ k_ ≠ gb107))) (fun _ hk => hk.1.2) (.slice Ao122 t125.length co122)) (fun _ hk => hk.2) (.string ((rd_T46 s0_0 s0_1).f1))) (fun _ hk => hk.2) (.slice Ao127 x111001_1.length co127)) (fun _ hk => hk.2) (.bool true)) (fun _ hk => hk.2) (.slice Ao122 t125.length co122)) (fun _ hk => hk.2) (.int .i64 ((rd_T46 s0_0 s0_1).f3))) (fun _ hk => hk.1.1.1.1.1.2), is69_3 HI0.out NB0_107.out NB0_110.out NB0_118.out, by repeat (first | (with_reducible first | exact HB.out | apply below_alloc | apply pw_below_drewN | apply below_drew1 | refine below_set ?_ (IsS69.ge HI0.out) | refine below_set ?_ GE107.out | refine below_set ?_ GE110.out | refine below_set ?_ GE118.out) | exact HB.out), by repeat (first | (with_reducible first | exact HK.out | apply KeepBut.set_ | apply keep_drewN | apply keep_drew | apply keep_alloc | refine keep_far ?_ GW107.out _ | refine keep_far ?_ GW110.out _ | refine keep_far ?_ GW118.out _) | exact HK.out)⟩
            ·
             replace c93 := Bool.eq_false_iff.mpr c93
             subst c93
             have H1 : ((parser_parser_fail.f s0_0 x1001_1 s0_2 s0_3 2).bind fun bt131 => (some (((rd_T46 s0_0 s0_1).f1), x111001_1, false, ([] : List (S41)), ((rd_T46 s0_0 s0_1).f3), bt131.1, bt131.2.1, bt131.2.2))) = some (r1, r2, r3, r4, r5, r6, r7, r8) := by rw [if_neg (show ¬ (false = true) by decide)] at H; exact H
             clear H
             have H := H1
             clear H1
             replace H := Option.bind_eq_some_iff.mp H
             obtain ⟨⟨t131, t132, t133⟩, A1280, H⟩ := H
             (try dsimp only at H)
             have A128 := Aside0.mk A1280
             clear A1280
             simp only [Option.some.injEq, Prod.mk.injEq] at H
             obtain ⟨rfl, rfl, rfl, rfl, rfl, rfl, rfl, rfl⟩ := H
             have hnb129 := NB118_107.out
             have hnc129 := NB107_118.out
             have hnb130 := NB118_110.out
             have hnc130 := NB110_118.out
             have hnb131 := NB118_0.out
             have hnc131 := NB0_118.out
             have hcz132_0 := cz_ (.int .i64 ((rd_T46 s0_0 x1001_1).f0)) BK118.out 0
             have hcz132_1 := cz_ (.string ((rd_T46 s0_0 x1001_1).f1)) BK118.out 1
             have hcz132_2 := cz_ (.int .i64 ((rd_T46 s0_0 x1001_1).f2)) BK118.out 2
             have hcz132_3 := cz_ (.int .i64 ((rd_T46 s0_0 x1001_1).f3)) BK118.out 3
             have hfz132_0 := blk_frozen BK118.out 0
             have hfz132_1 := blk_frozen BK118.out 1
             have hfz132_2 := blk_frozen BK118.out 2
             have hfz132_3 := blk_frozen BK118.out 3
             go_wp2_with (first | ((with_reducible refine gate_callee (f := 77) rfl ?_); refine goesL_ (some 103) rfl rfl Tryd.func77 (by kernel_rfl) rfl #[.agg #[.int .i64 ((rd_T46 s0_0 x1001_1).f0), .string ((rd_T46 s0_0 x1001_1).f1), .int .i64 ((rd_T46 s0_0 x1001_1).f2), .int .i64 ((rd_T46 s0_0 x1001_1).f3)], .string (⟨#[123]⟩ : ByteArray)] rfl ga_ ?_; (with_reducible refine (parser_sign.calls ((rd_T46 s0_0 x1001_1).f0) ((rd_T46 s0_0 x1001_1).f1) ((rd_T46 s0_0 x1001_1).f2) ((rd_T46 s0_0 x1001_1).f3) (⟨#[123]⟩ : ByteArray) false _ A92.out).mono ?_); rintro e w133 ⟨rfl, hb⟩; refine ⟨_, rfl, ?_⟩; refine cut7_ (Kd.R_below (rR_ HO_111001.out) hb) (bb_ BK107.out hb) (bb_ BK110.out hb) (bb_ BK118.out hb) (IsS69.below (is69_3 HI0.out NB0_107.out NB0_110.out NB0_118.out) hb) (KeepBut.trans (kk3_ HK.out GW107.out GW110.out GW118.out) (KeepBut.of_below hb g none) (.inl rfl)) (below_step (bl4_ HB.out (IsS69.ge HI0.out) GE107.out GE110.out GE118.out) hb) ?_; clear HO_111001 BK107 BK110 BK118 HI0 HK HB; intro HO_111001 BK107 BK110 BK118 HI0 HK HB; (try clear hb); (try clear hb2); (try clear hk); (try clear hi)) | ((with_reducible refine gate_callee (f := 78) rfl ?_); refine goesL_ (some 81) rfl rfl Tryd.func78 (by kernel_rfl) rfl #[.pointer (some ⟨g, 0, none⟩), .int .i64 2] rfl ga_ ?_; (with_reducible refine (parser_parser_fail.calls g s0_0 x1001_1 s0_2 s0_3 2 t131 t132 t133 w0 _ ?side1 ?side2 A128.out).mono ?_); (case side1 => exact is69_3 HI0.out NB0_107.out NB0_110.out NB0_118.out); (case side2 => repeat (first | (with_reducible first | exact HB.out | apply below_alloc | apply pw_below_drewN | apply below_drew1 | refine below_set ?_ (IsS69.ge HI0.out) | refine below_set ?_ GE107.out | refine below_set ?_ GE110.out | refine below_set ?_ GE118.out) | exact HB.out)); rintro e w134 ⟨rfl, hi, hb, hk⟩; refine ⟨_, rfl, ?_⟩; refine cut7_ (Kd.R_mono (Kd.R_keep (IsS69.apart (show IsS69 w0 _ g s0_0 x1001_1 s0_2 s0_3 from is69_3 HI0.out NB0_107.out NB0_110.out NB0_118.out) (rR_ HO_111001.out) (by decide)) hk (fun _ h => h.2)) (fun _ h => h.1)) (KeepBut.blk hk (g' := gb107) (o := .cells #[.string (⟨#[]⟩ : ByteArray), .slice none 0 0, .bool false, .slice none 0 0, .int .i64 0] 41 (0, 0)) (bk_ BK107.out) NB107_0.out (by simp)) (KeepBut.blk hk (g' := gb110) (o := .cells #[.string ((rd_T46 s0_0 s0_1).f1), u111001, .bool false, .slice none 0 0, .int .i64 ((rd_T46 s0_0 s0_1).f3)] 41 (0, 0)) (bk_ BK110.out) NB110_0.out (by simp)) (KeepBut.blk hk (g' := gb118) (o := .cells #[.int .i64 ((rd_T46 s0_0 x1001_1).f0), .string ((rd_T46 s0_0 x1001_1).f1), .int .i64 ((rd_T46 s0_0 x1001_1).f2), .int .i64 ((rd_T46 s0_0 x1001_1).f3)] 46 (0, 0)) (bk_ BK118.out) NB118_0.out (by simp)) (KeepBut.trans (kk3_ HK.out GW107.out GW110.out GW118.out) hk (.inl rfl)) (hb) (hi) ?_; clear HO_111001 BK107 BK110 BK118 HK HB HI0; intro HO_111001 BK107 BK110 BK118 HK HB HI0; (try clear hb); (try clear hb2); (try clear hk); (try clear hi); have hnb135 := NB110_107.out; have hnc135 := NB107_110.out; have hnb136 := NB110_0.out; have hnc136 := NB0_110.out; obtain ⟨hcz137_0, hcz137_1, hcz137_2, hcz137_3, hcz137_4, hfz137_0, hfz137_1, hfz137_2, hfz137_3, hfz137_4⟩ := cq5_ BK110.out; have hnb138 := NB107_0.out; have hnc138 := NB0_107.out; obtain ⟨hcz139_0, hcz139_1, hcz139_2, hcz139_3, hcz139_4, hfz139_0, hfz139_1, hfz139_2, hfz139_3, hfz139_4⟩ := cq5_ BK107.out; obtain ⟨Ao140, co140, eo140⟩ := Kd.R_slice HO_111001.out; subst eo140))
             refine bodyPost_ret (results_cell_row rfl _ _ gb107 41 #[.string ((rd_T46 s0_0 s0_1).f1), .slice Ao140 x111001_1.length co140, .bool false, .slice none 0 0, .int .i64 ((rd_T46 s0_0 s0_1).f3)] (0, 0) _ rfl (by exact put5_ (bk_ BK107.out)) Tryd.underlying41 rfl (by kernel_rfl)) rfl ?_
             exact ⟨_, _, er_, by (with_reducible repeat (first | apply Kd.R_alloc | apply Kd.R_drewN | apply Kd.R_drew)); exact Kd.R_mono (Kd.R_far (p := ⟨gb107, 4, none⟩) (Kd.R_far (p := ⟨gb107, 3, none⟩) (Kd.R_far (p := ⟨gb107, 2, none⟩) (Kd.R_far (p := ⟨gb107, 1, none⟩) (Kd.R_far (p := ⟨gb107, 0, none⟩) (Kd.R_types HO_111001.out BK107.out (by decide)) (fun _ hk => hk.2) (.string ((rd_T46 s0_0 s0_1).f1))) (fun _ hk => hk.2) (.slice Ao140 x111001_1.length co140)) (fun _ hk => hk.2) (.bool false)) (fun _ hk => hk.2) (.slice none 0 0)) (fun _ hk => hk.2) (.int .i64 ((rd_T46 s0_0 s0_1).f3))) (fun _ hk => trivial), ni_, is69_3 HI0.out NB0_107.out NB0_110.out NB0_118.out, by repeat (first | (with_reducible first | exact HB.out | apply below_alloc | apply pw_below_drewN | apply below_drew1 | refine below_set ?_ (IsS69.ge HI0.out) | refine below_set ?_ GE107.out | refine below_set ?_ GE110.out | refine below_set ?_ GE118.out) | exact HB.out), by repeat (first | (with_reducible first | exact HK.out | apply KeepBut.set_ | apply keep_drewN | apply keep_drew | apply keep_alloc | refine keep_far ?_ GW107.out _ | refine keep_far ?_ GW110.out _ | refine keep_far ?_ GW118.out _) | exact HK.out)⟩
      ·
       rw [if_neg c16] at H
       exact absurd H (by simp)
     ·
      rw [if_neg c15] at H
      exact absurd H (by simp)
  ·
   rw [if_neg c4] at H
   exact absurd H (by simp)
 ·
  rw [if_neg c3] at H
  exact absurd H (by simp)
mutual
def parser_parser_entries.l0 (NF : Nat → List S46 → Int → Int → Int → Int → Option (ByteArray × List S46 × Bool × List S41 × Int × Int × Int × Int)) : Nat → Int → List (S41) → List (S46) → Int → Int → Int → Option ((List (S41)) × Int × Int × Int)
 | 0, _, _, _, _, _, _ => none
 | k + 1, x1, x5, x1000, x1001, x1002, x1003 => if x1002 = 0 then (if 0 ≤ x1001 then (if x1001 < (x1000.length : Int) then (if ((rd_T46 x1000 x1001).f0) = 1 then ((NF k x1000 x1001 x1002 x1003 x1).bind fun bt105 => (if x5.length < 1759218604441 then (parser_parser_entries.l0 NF k x1 (x5 ++ [(⟨bt105.1, bt105.2.1, bt105.2.2.1, bt105.2.2.2.1, bt105.2.2.2.2.1⟩ : S41)]) x1000 bt105.2.2.2.2.2.1 bt105.2.2.2.2.2.2.1 bt105.2.2.2.2.2.2.2) else (none))) else (if x1 = 0 then (parser_parser_entries.j1 NF k x1 x5 (((rd_T46 x1000 x1001).f0) == 5) x1000 x1001 x1002 x1003 ((rd_T46 x1000 x1001).f0) ((rd_T46 x1000 x1001).f1) ((rd_T46 x1000 x1001).f2) ((rd_T46 x1000 x1001).f3)) else (parser_parser_entries.j1 NF k x1 x5 false x1000 x1001 x1002 x1003 ((rd_T46 x1000 x1001).f0) ((rd_T46 x1000 x1001).f1) ((rd_T46 x1000 x1001).f2) ((rd_T46 x1000 x1001).f3)))) else (none)) else (none)) else (some (x5, x1001, x1002, x1003))
def parser_parser_entries.j1 (NF : Nat → List S46 → Int → Int → Int → Int → Option (ByteArray × List S46 × Bool × List S41 × Int × Int × Int × Int)) : Nat → Int → List (S41) → Bool → List (S46) → Int → Int → Int → Int → ByteArray → Int → Int → Option ((List (S41)) × Int × Int × Int)
 | 0, _, _, _, _, _, _, _, _, _, _, _ => none
 | k + 1, x1, x5, x35, x1000, x1001, x1002, x1003, x105000, x105001, x105002, x105003 => if x35 = true then (some (x5, x1001, x1002, x1003)) else (if x1 > 0 then ((parser_sign.f x105000 x105001 x105002 x105003 (⟨#[125]⟩ : ByteArray)).bind fun t120 => (if t120 = true then (some (x5, x1001, x1002, x1003)) else ((parser_parser_fail.f x1000 x1001 x1002 x1003 2).bind fun bt121 => (parser_parser_entries.l0 NF k x1 x5 x1000 bt121.1 bt121.2.1 bt121.2.2)))) else ((parser_parser_fail.f x1000 x1001 x1002 x1003 2).bind fun bt124 => (parser_parser_entries.l0 NF k x1 x5 x1000 bt124.1 bt124.2.1 bt124.2.2)))
end
def parser_parser_entries.f (NF : Nat → List S46 → Int → Int → Int → Int → Option (ByteArray × List S46 × Bool × List S41 × Int × Int × Int × Int)) (k : Nat) (s0_0 : List (S46)) (s0_1 : Int) (s0_2 : Int) (s0_3 : Int) (a1 : Int) : Option ((List (S41)) × Int × Int × Int) := parser_parser_entries.l0 NF k a1 ([] : List (S41)) s0_0 s0_1 s0_2 s0_3
theorem parser_parser_entries.mono_l (NF : Nat → List S46 → Int → Int → Int → Int → Option (ByteArray × List S46 × Bool × List S41 × Int × Int × Int × Int)) (mNF : ∀ x0 x1 x2 x3 x4 k, LeO (NF k x0 x1 x2 x3 x4) (NF (k + 1) x0 x1 x2 x3 x4)) : ∀ k, (∀ y0 y1 y2 y3 y4 y5, LeO (parser_parser_entries.l0 NF k y0 y1 y2 y3 y4 y5) (parser_parser_entries.l0 NF (k + 1) y0 y1 y2 y3 y4 y5)) ∧ (∀ y0 y1 y2 y3 y4 y5 y6 y7 y8 y9 y10, LeO (parser_parser_entries.j1 NF k y0 y1 y2 y3 y4 y5 y6 y7 y8 y9 y10) (parser_parser_entries.j1 NF (k + 1) y0 y1 y2 y3 y4 y5 y6 y7 y8 y9 y10))
 | 0 => ⟨fun _ _ _ _ _ _ r h => by simp [parser_parser_entries.l0] at h, fun _ _ _ _ _ _ _ _ _ _ _ r h => by simp [parser_parser_entries.j1] at h⟩
 | k + 1 => by
  obtain ⟨ih0, ih1⟩ := parser_parser_entries.mono_l NF mNF k
  refine ⟨?_, ?_⟩
  ·
   intro y0 y1 y2 y3 y4 y5
   unfold parser_parser_entries.l0
   repeat' first
   | (with_reducible exact LeO.refl _)
   | exact ih0 _ _ _ _ _ _
   | exact ih1 _ _ _ _ _ _ _ _ _ _ _
   | exact mNF _ _ _ _ _ _
   | exact LeO.none _
   | refine LeO.ite ?_ ?_
   | refine LeO.bind ?_ (fun _ => ?_)
  ·
   intro y0 y1 y2 y3 y4 y5 y6 y7 y8 y9 y10
   unfold parser_parser_entries.j1
   repeat' first
   | (with_reducible exact LeO.refl _)
   | exact ih0 _ _ _ _ _ _
   | exact ih1 _ _ _ _ _ _ _ _ _ _ _
   | exact mNF _ _ _ _ _ _
   | exact LeO.none _
   | refine LeO.ite ?_ ?_
   | refine LeO.bind ?_ (fun _ => ?_)
theorem parser_parser_entries.mono (NF : Nat → List S46 → Int → Int → Int → Int → Option (ByteArray × List S46 × Bool × List S41 × Int × Int × Int × Int)) (mNF : ∀ x0 x1 x2 x3 x4 k, LeO (NF k x0 x1 x2 x3 x4) (NF (k + 1) x0 x1 x2 x3 x4)) : ∀ a0 a1 a2 a3 a4 k, LeO (parser_parser_entries.f NF k a0 a1 a2 a3 a4) (parser_parser_entries.f NF (k + 1) a0 a1 a2 a3 a4) := by
 intro a0 a1 a2 a3 a4 k
 obtain ⟨ih0, ih1⟩ := parser_parser_entries.mono_l NF mNF k
 unfold parser_parser_entries.f
 repeat' first
   | (with_reducible exact LeO.refl _)
   | exact ih0 _ _ _ _ _ _
   | exact ih1 _ _ _ _ _ _ _ _ _ _ _
   | exact mNF _ _ _ _ _ _
   | exact LeO.none _
   | refine LeO.ite ?_ ?_
   | refine LeO.bind ?_ (fun _ => ?_)
def parser_parser_entries.T3 : Bool × List (List Nat × List Nat) := (true, [([], []), ([0], [0]), ([1], [1]), ([2], [2]), ([], []), ([4], [4]), ([5], [5]), ([6], [6]), ([3, 7], [3, 7]), ([8], [8]), ([], []), ([10, 9, 0, 1, 2, 3, 4, 5, 6, 7, 8, 9, 10], [9, 10])])
def parser_parser_entries.B3 : List Nat := [0, 1, 3, 7, 0, 16, 48, 112, 255, 511, 0, 2047]
theorem parser_parser_entries.tab3 : rtab .any (opsOf Tryd.f52 3) = parser_parser_entries.T3 := by kernel_rfl
theorem parser_parser_entries.bits3 : waitsOk parser_parser_entries.T3.2 parser_parser_entries.B3 = true := by kernel_rfl
set_option maxHeartbeats 8000000 in
set_option maxRecDepth 100000 in
theorem parser_parser_entries.calls (NF : Nat → List S46 → Int → Int → Int → Int → Option (ByteArray × List S46 × Bool × List S41 × Int × Int × Int × Int)) (hNF : ∀ (k : Nat) (g : Nat) (s0_0 : List (S46)) (s0_1 : Int) (s0_2 : Int) (s0_3 : Int) (a1 : Int) (r1 : ByteArray) (r2 : List (S46)) (r3 : Bool) (r4 : List (S41)) (r5 : Int) (r6 : Int) (r7 : Int) (r8 : Int) (w0 w : World) (hI : IsS69 w0 w g s0_0 s0_1 s0_2 s0_3) (hB : Below w0.heap.size w0 w) (h : NF k s0_0 s0_1 s0_2 s0_3 a1 = some (r1, r2, r3, r4, r5, r6, r7, r8)), Calls Tryd.prog 76 #[.pointer (some ⟨g, 0, none⟩), .int .i64 a1] w fun e w' => ∃ v1_ v3_ : Value, e = .returned (.agg #[.string r1, v1_, .bool r3, v3_, .int .i64 r5]) ∧ Kd.R k46 46 w' w.heap.size (fun _ => True) v1_ r2 ∧ Kd.R k41 41 w' w.heap.size (fun k_ => some k_ ≠ (v1_ : Value).ownBlock) v3_ r4 ∧ IsS69 w0 w' g s0_0 r6 r7 r8 ∧ Below w0.heap.size w0 w' ∧ KeepBut w w' g none) (k : Nat) (g : Nat) (s0_0 : List (S46)) (s0_1 : Int) (s0_2 : Int) (s0_3 : Int) (a1 : Int) (r1 : List (S41)) (r2 : Int) (r3 : Int) (r4 : Int) (w0 w : World) (hI : IsS69 w0 w g s0_0 s0_1 s0_2 s0_3) (hB : Below w0.heap.size w0 w) (h : parser_parser_entries.f NF k s0_0 s0_1 s0_2 s0_3 a1 = some (r1, r2, r3, r4)) :
  Calls Tryd.prog 52 #[.pointer (some ⟨g, 0, none⟩), .int .i64 a1] w fun e w' => ∃ v0_ : Value, e = .returned (v0_) ∧ Kd.R k41 41 w' w.heap.size (fun _ => True) v0_ r1 ∧ IsS69 w0 w' g s0_0 r2 r3 r4 ∧ Below w0.heap.size w0 w' ∧ KeepBut w w' g none := by
 have hu46 := Tryd.underlying46
 have HI0 := Aside0.mk hI
 have HK := Aside0.mk (KeepBut.refl w g none)
 have HL := Aside0.mk hB.size
 clear hI
 have HW0 := Aside0.mk hB.size
 have HB := Aside0.mk hB
 clear hB
 have H : (parser_parser_entries.l0 NF k a1 ([] : List (S41)) s0_0 s0_1 s0_2 s0_3) = some (r1, r2, r3, r4) := h
 clear h
 have H' := Aside0.mk H
 clear H
 go_enter Tryd.func52, Tryd.ntmps52
 go_wp2
 iterate 3 (try (go_step3; (try go_wp2)))
 go_loopg [5] k (fun kq v5 w' => ∃ (x5_1 : List (S41)) (x1001_1 : Int) (x1002_1 : Int) (x1003_1 : Int), Aside0 (parser_parser_entries.l0 NF kq a1 x5_1 s0_0 x1001_1 x1002_1 x1003_1 = some (r1, r2, r3, r4)) ∧ Aside0 (kq ≤ k) ∧ Aside0 (Kd.R k41 41 w' w.heap.size (fun _ => True) v5 x5_1) ∧ Aside0 (IsS69 w0 w' g s0_0 x1001_1 x1002_1 x1003_1) ∧ Aside0 (KeepBut w w' g none) ∧ Aside0 (Below w0.heap.size w0 w'))
 case atStart => exact ⟨(([] : List (S41))), (s0_1), (s0_2), (s0_3), H', ⟨Nat.le_refl _⟩, ⟨ni_⟩, ⟨is69_0 HI0.out⟩, ⟨by repeat (first | (with_reducible first | exact HK.out | apply KeepBut.set_ | apply keep_drewN | apply keep_drew | apply keep_alloc) | exact HK.out)⟩, ⟨bl1_ HB.out (IsS69.ge HI0.out)⟩⟩
 case round =>
  clear H'
  try clear p2
  obtain ⟨x5_1, x1001_1, x1002_1, x1003_1, HA, HK1, HO_5, HI0, HK, HB⟩ := hrel
  cases gk with
  | zero => exact absurd HA.out (by simp [parser_parser_entries.l0])
  | succ k1 =>
   have H := HA.out
   clear HA
   simp only [parser_parser_entries.l0] at H
   by_cases c3 : x1002_1 = 0
   ·
    rw [if_pos c3] at H
    have c3b0 := beq_iff_eq.mpr c3
    have c3b1 := bne_eq_false_iff_eq.mpr c3
    clear c3
    by_cases c4 : 0 ≤ x1001_1
    ·
     rw [if_pos c4] at H
     have c4b0 := decide_eq_true c4
     clear c4
     by_cases c5 : x1001_1 < (s0_0.length : Int)
     ·
      rw [if_pos c5] at H
      have c5b0 := decide_eq_true c5
      clear c5
      by_cases c6 : ((rd_T46 s0_0 x1001_1).f0) = 1
      ·
       rw [if_pos c6] at H
       have c6b0 := beq_iff_eq.mpr c6
       have c6b1 := bne_eq_false_iff_eq.mpr c6
       clear c6
       replace H := Option.bind_eq_some_iff.mp H
       obtain ⟨⟨t105, t106, t109, t110, t113, t114, t115, t116⟩, A70, H⟩ := H
       (try dsimp only at H)
       have A7 := Aside0.mk A70
       clear A70
       by_cases c8 : x5_1.length < 1759218604441
       ·
        rw [if_pos c8] at H
        have LMc8 := Aside0.mk c8
        clear c8
        obtain ⟨y117, hy117⟩ : ∃ y_ : List (S41), y_ = (x5_1 ++ [(⟨t105, t106, t109, t110, t113⟩ : S41)]) := ⟨_, rfl⟩
        replace H : (parser_parser_entries.l0 NF k1 a1 y117 s0_0 t114 t115 t116) = some (r1, r2, r3, r4) := by first | (rw [hy117]; with_reducible exact H) | (have H2_ := (Option.bind_some _ _).symm.trans H; rw [hy117]; with_reducible exact H2_) | (have H2_ := (Option.bind_some _ _).symm.trans H; with_reducible exact H2_) | with_reducible exact H | (rw [hy117]; exact H) | exact H
        have Ny117 := Aside0.mk hy117
        clear hy117
        have H' := Aside0.mk H
        clear H
        obtain ⟨ASz9_0, cSz9_0, HGz9, hgz9, HSz9_0⟩ := HI0.out
        have hcz9_0 := cellS69_0 HGz9
        have hcz9_1 := cellS69_1 HGz9
        have hcz9_2 := cellS69_2 HGz9
        have hcz9_3 := cellS69_3 HGz9
        have hfz9_1 := blk_frozen HGz9 1
        have hfz9_2 := blk_frozen HGz9 2
        have hfz9_3 := blk_frozen HGz9 3
        clear HGz9 hgz9
        try go_wp2
        refine cut4_ (Kd.R_drew HO_5.out) (IsS69.drew HI0.out) (keep_drew HK.out) (below_drew1 HB.out) ?_
        clear HO_5 HI0 HK HB
        intro HO_5 HI0 HK HB
        obtain ⟨ASz11_0, cSz11_0, HGz11, hgz11, HSz11_0⟩ := HI0.out
        have hcz11_0 := cellS69_0 HGz11
        have hcz11_1 := cellS69_1 HGz11
        have hcz11_2 := cellS69_2 HGz11
        have hcz11_3 := cellS69_3 HGz11
        have hfz11_1 := blk_frozen HGz11 1
        have hfz11_2 := blk_frozen HGz11 2
        have hfz11_3 := blk_frozen HGz11 3
        clear HGz11 hgz11
        have p103 : 0 ≤ (x1001_1 : Int) := dt_
        have q103 : x1001_1 < (s0_0.length : Int) := dt_
        obtain ⟨ad103, e103, hx103_0, hx103_1, hx103_2, hx103_3⟩ := at_T46 HSz11_0 x1001_1 p103 q103
        have hw103_3 := hx103_3
        have hw103_2 := hx103_2
        have hw103_1 := hx103_1
        have hw103_0 := hx103_0
        cases e103
        replace hx103_0 := pw_cell_below HB.out hx103_0
        replace hx103_1 := pw_cell_below HB.out hx103_1
        replace hx103_2 := pw_cell_below HB.out hx103_2
        replace hx103_3 := pw_cell_below HB.out hx103_3
        replace p103 := eq_true p103
        replace q103 := eq_true q103
        refine start_ (n := 12) (S := fun w' => w'.cell? ⟨g, 0, none⟩ = some (.slice (some ad103) (s0_0).length cSz11_0) ∧ w'.cell? ⟨g, 1, none⟩ = some (.int .i64 x1001_1) ∧ w'.cell? ⟨g, 2, none⟩ = some (.int .i64 x1002_1) ∧ w'.cell? ⟨g, 3, none⟩ = some (.int .i64 x1003_1) ∧ w'.cell? (ad103.add ((x1001_1).toNat * 4)) = some (.int .i64 ((rd_T46 s0_0 x1001_1).f0)) ∧ w'.cell? ⟨(ad103.add ((x1001_1).toNat * 4)).block, (ad103.add ((x1001_1).toNat * 4)).off + 1, none⟩ = some (.string ((rd_T46 s0_0 x1001_1).f1)) ∧ w'.cell? ⟨(ad103.add ((x1001_1).toNat * 4)).block, (ad103.add ((x1001_1).toNat * 4)).off + 2, none⟩ = some (.int .i64 ((rd_T46 s0_0 x1001_1).f2)) ∧ w'.cell? ⟨(ad103.add ((x1001_1).toNat * 4)).block, (ad103.add ((x1001_1).toNat * 4)).off + 3, none⟩ = some (.int .i64 ((rd_T46 s0_0 x1001_1).f3))) (ds := []) #[false, false, false, false, false, false, false, false, false, false, false, false] (by kernel_rfl) rfl rfl ⟨hcz11_0, hcz11_1, hcz11_2, hcz11_3, (pw_cell_below HB.out hw103_0), (pw_cell_below HB.out hw103_1), (pw_cell_below HB.out hw103_2), (pw_cell_below HB.out hw103_3)⟩ (fun hHeld => ?_); refine with_tabW parser_parser_entries.tab3 parser_parser_entries.bits3 (fun HT_ HW_ => ?_)
        generalize wr.drew = w10 at HO_5 HI0 HK HB hx103_0 hx103_1 hx103_2 hx103_3 hHeld ⊢
        refine pr_ (i := 0) (N := some 13) #[true, false, false, false, false, false, false, false, false, false, false, false] (any_of HT_.out (by kernel_rfl)) ?_
        refine pr_ (i := 1) (N := some 14) #[true, true, false, false, false, false, false, false, false, false, false, false] (any_of HT_.out (by kernel_rfl)) ?_
        refine pr_ (i := 2) (N := some 15) #[true, true, true, false, false, false, false, false, false, false, false, false] (any_of HT_.out (by kernel_rfl)) ?_
        refine pr_ (i := 4) (N := some 17) #[true, true, true, false, true, false, false, false, false, false, false, false] (any_of HT_.out (by kernel_rfl)) ?_
        refine pr_ (i := 5) (N := some 18) #[true, true, true, false, true, true, false, false, false, false, false, false] (any_of HT_.out (by kernel_rfl)) ?_
        refine pr_ (i := 6) (N := some 19) #[true, true, true, false, true, true, true, false, false, false, false, false] (any_of HT_.out (by kernel_rfl)) ?_
        refine take_ (i := 3) (N := some 16) (v := ?_) (a' := ?_) #[true, true, true, true, true, true, true, false, false, false, false, false] rfl rfl (take_ofW HT_.out HW_.out (by kernel_rfl)) (fun _ _ _ h => h) (Or.inl ⟨by rfl, ?_⟩) hHeld ?_ ?_
        rotate_left
        ·
         rintro w' ⟨s0, s1, s2, s3, s4, s5, s6, s7⟩
         go_simp
         with_reducible rfl
        rotate_left
        ·
         simp only [Act.put, List.setIfInBounds_toArray, List.set_cons_zero, List.set_cons_succ, i64_w, i32_w]
         rfl
        refine take_ (i := 7) (N := some 20) (v := ?_) (a' := ?_) #[true, true, true, true, true, true, true, true, false, false, false, false] rfl rfl (take_ofW HT_.out HW_.out (by kernel_rfl)) (fun _ _ _ h => h) (Or.inl ⟨by rfl, ?_⟩) hHeld ?_ ?_
        rotate_left
        ·
         rintro w' ⟨s0, s1, s2, s3, s4, s5, s6, s7⟩
         go_simp
         with_reducible rfl
        rotate_left
        ·
         simp only [Act.put, List.setIfInBounds_toArray, List.set_cons_zero, List.set_cons_succ, i64_w, i32_w]
         rfl
        refine pr_ (i := 8) (N := some 21) #[true, true, true, true, true, true, true, true, true, false, false, false] (any_of HT_.out (by kernel_rfl)) ?_
        refine take_ (i := 9) (N := some 22) (v := ?_) (a' := ?_) #[true, true, true, true, true, true, true, true, true, true, false, false] rfl rfl (take_ofW HT_.out HW_.out (by kernel_rfl)) (fun _ _ _ h => h) (Or.inl ⟨by rfl, ?_⟩) hHeld ?_ ?_
        rotate_left
        ·
         rintro w' ⟨s0, s1, s2, s3, s4, s5, s6, s7⟩
         go_simp
         with_reducible rfl
        rotate_left
        ·
         simp only [Act.put, List.setIfInBounds_toArray, List.set_cons_zero, List.set_cons_succ, i64_w, i32_w]
         rfl
        refine one_ (i := 10) (N := some 6) #[true, true, true, true, true, true, true, true, true, true, true, false] rfl rfl (one_of HT_.out (by kernel_rfl)) (by decide) (fun K hK => ?_)
        refine box_step ?hg (N := 6) ?hd (cs := #[.int .i64 0, .string (⟨#[]⟩ : ByteArray), .int .i64 0, .int .i64 0]) (t := 46) ?hr ?_; (case hd => rfl); (case hg => rfl); (case hr => first | (go_simp; done) | (go_simp; rfl))
        intro gb104 hg w12 hbox hb
        have HS0_ := (hb.cell (World.block_lt_of_cell? _ _ (hHeld.1))).trans (hHeld.1)
        have HS1_ := (hb.cell (World.block_lt_of_cell? _ _ (hHeld.2.1))).trans (hHeld.2.1)
        have HS2_ := (hb.cell (World.block_lt_of_cell? _ _ (hHeld.2.2.1))).trans (hHeld.2.2.1)
        have HS3_ := (hb.cell (World.block_lt_of_cell? _ _ (hHeld.2.2.2.1))).trans (hHeld.2.2.2.1)
        refine cut9_ (Kd.R_below (Kd.R_elderB (rR_ HO_5.out) gb104 (Nat.le_of_eq hg.symm)) hb) (IsS69.below (is69_0 HI0.out) hb) (KeepBut.trans (kk_ HK.out) (KeepBut.of_below hb g none) (.inl rfl)) (below_step (bl1_ HB.out (IsS69.ge HI0.out)) hb) (hbox) (kz_ hg (kk_ HK.out)) ((Nat.le_trans HW0.out (by rw [hg]; exact (keep_size (w := w) (g := g) (row := none) (kk_ HK.out)) : w.heap.size ≤ gb104) : w0.heap.size ≤ gb104)) ((by rw [hg]; exact Nat.ne_of_lt (IsS69.lt (show IsS69 w0 _ g s0_0 x1001_1 x1002_1 x1003_1 from is69_0 HI0.out)) : g ≠ gb104)) ((by rw [hg]; exact Nat.ne_of_gt (IsS69.lt (show IsS69 w0 _ g s0_0 x1001_1 x1002_1 x1003_1 from is69_0 HI0.out)) : gb104 ≠ g)) ?_
        clear HO_5 HI0 HK HB
        intro HO_5 HI0 HK HB BK104 GW104 GE104 NB0_104 NB104_0
        clear hb hbox hg
        refine hK.out _ _ ⟨HS0_, HS1_, HS2_, HS3_, (pw_cell_below HB.out hw103_0), (pw_cell_below HB.out hw103_1), (pw_cell_below HB.out hw103_2), (pw_cell_below HB.out hw103_3)⟩ (fun hHeld => ?_)
        clear hK K
        refine norm_ (a' := ?_) ?_ ?_
        rotate_left
        ·
         show Act.put _ (some 6) _ = _
         simp only [Act.put, List.setIfInBounds_toArray, List.set_cons_zero, List.set_cons_succ, i64_w, i32_w]
         rfl
        refine one_ (i := 11) (N := none) #[true, true, true, true, true, true, true, true, true, true, true, true] rfl rfl (one_of HT_.out (by kernel_rfl)) (by decide) (fun K hK => ?_)
        have hs13 : w12.cell? ⟨gb104, 0, none⟩ = some (.int .i64 0) := (blk_cell BK104.out 0).trans rfl
        have hfs13 := blk_frozen BK104.out 0
        have hs14 : w12.cell? ⟨gb104, 1, none⟩ = some (.string (⟨#[]⟩ : ByteArray)) := (blk_cell BK104.out 1).trans rfl
        have hfs14 := blk_frozen BK104.out 1
        have hs15 : w12.cell? ⟨gb104, 2, none⟩ = some (.int .i64 0) := (blk_cell BK104.out 2).trans rfl
        have hfs15 := blk_frozen BK104.out 2
        have hs16 : w12.cell? ⟨gb104, 3, none⟩ = some (.int .i64 0) := (blk_cell BK104.out 3).trans rfl
        have hfs16 := blk_frozen BK104.out 3
        refine skip_ (w1 := ?_) (by rfl) rfl ?_ ?_
        rotate_left
        ·
         go_simp
         rfl
        refine hK.out _ _ ⟨(cf4_ gb104 (fs_ NB0_104.out) hHeld.1), (cf4_ gb104 (fs_ NB0_104.out) hHeld.2.1), (cf4_ gb104 (fs_ NB0_104.out) hHeld.2.2.1), (cf4_ gb104 (fs_ NB0_104.out) hHeld.2.2.2.1), (cf4_ gb104 (fr_ hw103_0 (Nat.le_trans HL.out GW104.out)) hHeld.2.2.2.2.1), (cf4_ gb104 (fr_ hw103_1 (Nat.le_trans HL.out GW104.out)) hHeld.2.2.2.2.2.1), (cf4_ gb104 (fr_ hw103_2 (Nat.le_trans HL.out GW104.out)) hHeld.2.2.2.2.2.2.1), (cf4_ gb104 (fr_ hw103_3 (Nat.le_trans HL.out GW104.out)) hHeld.2.2.2.2.2.2.2)⟩ (fun hHeld => ?_)
        clear hK K
        refine done_ (done_of HT_.out (by kernel_rfl)) ?_
        have hnb17 := NB104_0.out
        have hnc17 := NB0_104.out
        have hcz18_0 := cz_ (.int .i64 0) BK104.out 0
        have hcz18_1 := cz_ (.string (⟨#[]⟩ : ByteArray)) BK104.out 1
        have hcz18_2 := cz_ (.int .i64 0) BK104.out 2
        have hcz18_3 := cz_ (.int .i64 0) BK104.out 3
        have hfz18_0 := blk_frozen BK104.out 0
        have hfz18_1 := blk_frozen BK104.out 1
        have hfz18_2 := blk_frozen BK104.out 2
        have hfz18_3 := blk_frozen BK104.out 3
        try go_wp2_with (first | ((with_reducible refine gate_callee (f := 76) rfl ?_); refine goesL_ (some 32) rfl rfl Tryd.func76 (by kernel_rfl) rfl #[.pointer (some ⟨g, 0, none⟩), .int .i64 a1] rfl ga_ ?_; (with_reducible refine (hNF k1 g s0_0 x1001_1 x1002_1 x1003_1 a1 t105 t106 t109 t110 t113 t114 t115 t116 w0 _ ?side1 ?side2 A7.out).mono ?_); (case side1 => exact is69_1 HI0.out NB0_104.out); (case side2 => repeat (first | (with_reducible first | exact HB.out | apply below_alloc | apply pw_below_drewN | apply below_drew1 | refine below_set ?_ (IsS69.ge HI0.out) | refine below_set ?_ GE104.out) | exact HB.out)); rintro e w19 ⟨v107, v111, rfl, ho0, ho1, hi, hb, hk⟩; refine ⟨_, rfl, ?_⟩; refine cut7_ (Kd.R_mono (Kd.R_told (Kd.R_told (Kd.R_oldK (IsS69.apart (show IsS69 w0 _ g s0_0 x1001_1 x1002_1 x1003_1 from is69_1 HI0.out NB0_104.out) (rR_ (Kd.R_mono (Kd.R_far (p := ⟨gb104, 3, none⟩) (Kd.R_far (p := ⟨gb104, 2, none⟩) (Kd.R_far (p := ⟨gb104, 1, none⟩) (Kd.R_far (p := ⟨gb104, 0, none⟩) (Kd.R_mono HO_5.out (fun k_ hk => (⟨hk, hk.2⟩ : _ ∧ k_ ≠ gb104))) (fun _ hk => hk.2) (.int .i64 ((rd_T46 s0_0 x1001_1).f0))) (fun _ hk => hk.2) (.string ((rd_T46 s0_0 x1001_1).f1))) (fun _ hk => hk.2) (.int .i64 ((rd_T46 s0_0 x1001_1).f2))) (fun _ hk => hk.2) (.int .i64 ((rd_T46 s0_0 x1001_1).f3))) (fun _ h_ => h_.1))) (by decide)) hk) (Kd.R_base ho0)) (Kd.R_base ho1)) (fun _ h_ => h_.1)) (KeepBut.blk hk (g' := gb104) (o := .cells #[.int .i64 ((rd_T46 s0_0 x1001_1).f0), .string ((rd_T46 s0_0 x1001_1).f1), .int .i64 ((rd_T46 s0_0 x1001_1).f2), .int .i64 ((rd_T46 s0_0 x1001_1).f3)] 46 (0, 0)) (by exact put4_ (bk_ BK104.out)) NB104_0.out (by simp)) (Kd.R_lower (Kd.R_newB ho0 (g := gb104) (o := .cells #[.int .i64 ((rd_T46 s0_0 x1001_1).f0), .string ((rd_T46 s0_0 x1001_1).f1), .int .i64 ((rd_T46 s0_0 x1001_1).f2), .int .i64 ((rd_T46 s0_0 x1001_1).f3)] 46 (0, 0)) (by exact put4_ (bk_ BK104.out))) (keep_size (w := w) (g := g) (row := none) (kk1_ HK.out GW104.out))) (Kd.R_lower (Kd.R_newB (Kd.R_new' ho1 (Kd.R_lt (rR_ (Kd.R_mono (Kd.R_far (p := ⟨gb104, 3, none⟩) (Kd.R_far (p := ⟨gb104, 2, none⟩) (Kd.R_far (p := ⟨gb104, 1, none⟩) (Kd.R_far (p := ⟨gb104, 0, none⟩) (Kd.R_mono HO_5.out (fun k_ hk => (⟨hk, hk.2⟩ : _ ∧ k_ ≠ gb104))) (fun _ hk => hk.2) (.int .i64 ((rd_T46 s0_0 x1001_1).f0))) (fun _ hk => hk.2) (.string ((rd_T46 s0_0 x1001_1).f1))) (fun _ hk => hk.2) (.int .i64 ((rd_T46 s0_0 x1001_1).f2))) (fun _ hk => hk.2) (.int .i64 ((rd_T46 s0_0 x1001_1).f3))) (fun _ h_ => h_.1))))) (g := gb104) (o := .cells #[.int .i64 ((rd_T46 s0_0 x1001_1).f0), .string ((rd_T46 s0_0 x1001_1).f1), .int .i64 ((rd_T46 s0_0 x1001_1).f2), .int .i64 ((rd_T46 s0_0 x1001_1).f3)] 46 (0, 0)) (by exact put4_ (bk_ BK104.out))) (keep_size (w := w) (g := g) (row := none) (kk1_ HK.out GW104.out))) (KeepBut.trans (kk1_ HK.out GW104.out) hk (.inl rfl)) (hb) (hi) ?_; clear HO_5 BK104 HK HB HI0; intro HO_5 BK104 HO108 HO112 HK HB HI0; (try clear hb); (try clear hb2); (try clear hk); (try clear hi); (try clear ho0); (try clear ho1); obtain ⟨Ao21, co21, eo21⟩ := Kd.R_slice HO108.out; subst eo21; obtain ⟨Ao22, co22, eo22⟩ := Kd.R_slice HO112.out; subst eo22) | ((with_reducible refine gate_builtin (b := .append) (xs := #[.tmp 29, .tmp 33]) rfl ?_); at_builtin; refine Kd.R_append k41 w.heap.size rfl (.tmp 29) (.tmp 33) 23 41 (.agg #[(.string ⟨#[]⟩), (.slice none 0 0), (.bool false), (.slice none 0 0), (.int .i64 0)]) 80 rfl Tryd.underlying23 info41 rfl (by decide) (by omega) u5 x5_1 (⟨t105, t106, t109, t110, t113⟩ : S41) [.string t105, .slice Ao21 t106.length co21, .bool t109, .slice Ao22 t110.length co22, .int .i64 t113] (fun k_ => k_ ≠ gb104) (fun k_ => ((fun k_ => k_ ≠ gb104)) k_ ∧ some k_ ≠ (u5 : Value).ownBlock) rfl rfl ?aP (fun _ hk => hk) ?aF ?aO (Below.refl _ _) ?aS ?aL ?_; (case aP => exact k41_mkM _ _ _ (⟨t105, t106, t109, t110, t113⟩ : S41) (Kd.R_mono (Kd.R_apart' (HO108.out) (Kd.R_typed HO_5.out) (by decide)) (fun k_ hk => ⟨hk.1.2, hk.2⟩)) (Kd.R_mono (HO112.out) (fun k_ hk => ⟨hk.2, hk.1.2⟩))); (case aF => exact (fun k_ hk => Kd.freshB (g := gb104) (o := .cells #[.int .i64 ((rd_T46 s0_0 x1001_1).f0), .string ((rd_T46 s0_0 x1001_1).f1), .int .i64 ((rd_T46 s0_0 x1001_1).f2), .int .i64 ((rd_T46 s0_0 x1001_1).f3)] 46 (0, 0)) (bk_ BK104.out) k_ hk)); (case aO => exact (rR_ (Kd.R_mono HO_5.out (fun _ hk => hk.1.1.2)))); (case aS => exact (keep_size (w := w) (g := g) (row := none) (kk1_ HK.out GW104.out))); (case aL => have := LMc8.out; omega); intro v118 w20 ho hb hg hat; rw [← Ny117.out] at ho; refine cut5_ (IsS69.grown (is69_1 HI0.out NB0_104.out) hg (IsS69.own_ne HI0.out HO_5.out (by decide))) (blk_grown (g := gb104) (o := .cells #[.int .i64 ((rd_T46 s0_0 x1001_1).f0), .string ((rd_T46 s0_0 x1001_1).f1), .int .i64 ((rd_T46 s0_0 x1001_1).f2), .int .i64 ((rd_T46 s0_0 x1001_1).f3)] 46 (0, 0)) (bk_ BK104.out) hg (Kd.R_ne HO_5.out BK104.out (by decide))) (below_weaken (bl2_ HB.out (IsS69.ge HI0.out) GE104.out) HL.out hb) (KeepBut.trans (kk1_ HK.out GW104.out) (KeepBut.of_grown hg g) (Kd.R_base2 HO_5.out)) (ho) ?_; clear HI0 BK104 HB HK HO_5 HO108 HO112; intro HI0 BK104 HB HK HO119; clear ho hb hg hat))
        iterate 3 (try (go_step3; (try go_wp2_with (first | ((with_reducible refine gate_callee (f := 76) rfl ?_); refine goesL_ (some 32) rfl rfl Tryd.func76 (by kernel_rfl) rfl #[.pointer (some ⟨g, 0, none⟩), .int .i64 a1] rfl ga_ ?_; (with_reducible refine (hNF k1 g s0_0 x1001_1 x1002_1 x1003_1 a1 t105 t106 t109 t110 t113 t114 t115 t116 w0 _ ?side1 ?side2 A7.out).mono ?_); (case side1 => exact is69_1 HI0.out NB0_104.out); (case side2 => repeat (first | (with_reducible first | exact HB.out | apply below_alloc | apply pw_below_drewN | apply below_drew1 | refine below_set ?_ (IsS69.ge HI0.out) | refine below_set ?_ GE104.out) | exact HB.out)); rintro e w19 ⟨v107, v111, rfl, ho0, ho1, hi, hb, hk⟩; refine ⟨_, rfl, ?_⟩; refine cut7_ (Kd.R_mono (Kd.R_told (Kd.R_told (Kd.R_oldK (IsS69.apart (show IsS69 w0 _ g s0_0 x1001_1 x1002_1 x1003_1 from is69_1 HI0.out NB0_104.out) (rR_ (Kd.R_mono (Kd.R_far (p := ⟨gb104, 3, none⟩) (Kd.R_far (p := ⟨gb104, 2, none⟩) (Kd.R_far (p := ⟨gb104, 1, none⟩) (Kd.R_far (p := ⟨gb104, 0, none⟩) (Kd.R_mono HO_5.out (fun k_ hk => (⟨hk, hk.2⟩ : _ ∧ k_ ≠ gb104))) (fun _ hk => hk.2) (.int .i64 ((rd_T46 s0_0 x1001_1).f0))) (fun _ hk => hk.2) (.string ((rd_T46 s0_0 x1001_1).f1))) (fun _ hk => hk.2) (.int .i64 ((rd_T46 s0_0 x1001_1).f2))) (fun _ hk => hk.2) (.int .i64 ((rd_T46 s0_0 x1001_1).f3))) (fun _ h_ => h_.1))) (by decide)) hk) (Kd.R_base ho0)) (Kd.R_base ho1)) (fun _ h_ => h_.1)) (KeepBut.blk hk (g' := gb104) (o := .cells #[.int .i64 ((rd_T46 s0_0 x1001_1).f0), .string ((rd_T46 s0_0 x1001_1).f1), .int .i64 ((rd_T46 s0_0 x1001_1).f2), .int .i64 ((rd_T46 s0_0 x1001_1).f3)] 46 (0, 0)) (by exact put4_ (bk_ BK104.out)) NB104_0.out (by simp)) (Kd.R_lower (Kd.R_newB ho0 (g := gb104) (o := .cells #[.int .i64 ((rd_T46 s0_0 x1001_1).f0), .string ((rd_T46 s0_0 x1001_1).f1), .int .i64 ((rd_T46 s0_0 x1001_1).f2), .int .i64 ((rd_T46 s0_0 x1001_1).f3)] 46 (0, 0)) (by exact put4_ (bk_ BK104.out))) (keep_size (w := w) (g := g) (row := none) (kk1_ HK.out GW104.out))) (Kd.R_lower (Kd.R_newB (Kd.R_new' ho1 (Kd.R_lt (rR_ (Kd.R_mono (Kd.R_far (p := ⟨gb104, 3, none⟩) (Kd.R_far (p := ⟨gb104, 2, none⟩) (Kd.R_far (p := ⟨gb104, 1, none⟩) (Kd.R_far (p := ⟨gb104, 0, none⟩) (Kd.R_mono HO_5.out (fun k_ hk => (⟨hk, hk.2⟩ : _ ∧ k_ ≠ gb104))) (fun _ hk => hk.2) (.int .i64 ((rd_T46 s0_0 x1001_1).f0))) (fun _ hk => hk.2) (.string ((rd_T46 s0_0 x1001_1).f1))) (fun _ hk => hk.2) (.int .i64 ((rd_T46 s0_0 x1001_1).f2))) (fun _ hk => hk.2) (.int .i64 ((rd_T46 s0_0 x1001_1).f3))) (fun _ h_ => h_.1))))) (g := gb104) (o := .cells #[.int .i64 ((rd_T46 s0_0 x1001_1).f0), .string ((rd_T46 s0_0 x1001_1).f1), .int .i64 ((rd_T46 s0_0 x1001_1).f2), .int .i64 ((rd_T46 s0_0 x1001_1).f3)] 46 (0, 0)) (by exact put4_ (bk_ BK104.out))) (keep_size (w := w) (g := g) (row := none) (kk1_ HK.out GW104.out))) (KeepBut.trans (kk1_ HK.out GW104.out) hk (.inl rfl)) (hb) (hi) ?_; clear HO_5 BK104 HK HB HI0; intro HO_5 BK104 HO108 HO112 HK HB HI0; (try clear hb); (try clear hb2); (try clear hk); (try clear hi); (try clear ho0); (try clear ho1); obtain ⟨Ao21, co21, eo21⟩ := Kd.R_slice HO108.out; subst eo21; obtain ⟨Ao22, co22, eo22⟩ := Kd.R_slice HO112.out; subst eo22) | ((with_reducible refine gate_builtin (b := .append) (xs := #[.tmp 29, .tmp 33]) rfl ?_); at_builtin; refine Kd.R_append k41 w.heap.size rfl (.tmp 29) (.tmp 33) 23 41 (.agg #[(.string ⟨#[]⟩), (.slice none 0 0), (.bool false), (.slice none 0 0), (.int .i64 0)]) 80 rfl Tryd.underlying23 info41 rfl (by decide) (by omega) u5 x5_1 (⟨t105, t106, t109, t110, t113⟩ : S41) [.string t105, .slice Ao21 t106.length co21, .bool t109, .slice Ao22 t110.length co22, .int .i64 t113] (fun k_ => k_ ≠ gb104) (fun k_ => ((fun k_ => k_ ≠ gb104)) k_ ∧ some k_ ≠ (u5 : Value).ownBlock) rfl rfl ?aP (fun _ hk => hk) ?aF ?aO (Below.refl _ _) ?aS ?aL ?_; (case aP => exact k41_mkM _ _ _ (⟨t105, t106, t109, t110, t113⟩ : S41) (Kd.R_mono (Kd.R_apart' (HO108.out) (Kd.R_typed HO_5.out) (by decide)) (fun k_ hk => ⟨hk.1.2, hk.2⟩)) (Kd.R_mono (HO112.out) (fun k_ hk => ⟨hk.2, hk.1.2⟩))); (case aF => exact (fun k_ hk => Kd.freshB (g := gb104) (o := .cells #[.int .i64 ((rd_T46 s0_0 x1001_1).f0), .string ((rd_T46 s0_0 x1001_1).f1), .int .i64 ((rd_T46 s0_0 x1001_1).f2), .int .i64 ((rd_T46 s0_0 x1001_1).f3)] 46 (0, 0)) (bk_ BK104.out) k_ hk)); (case aO => exact (rR_ (Kd.R_mono HO_5.out (fun _ hk => hk.1.1.2)))); (case aS => exact (keep_size (w := w) (g := g) (row := none) (kk1_ HK.out GW104.out))); (case aL => have := LMc8.out; omega); intro v118 w20 ho hb hg hat; rw [← Ny117.out] at ho; refine cut5_ (IsS69.grown (is69_1 HI0.out NB0_104.out) hg (IsS69.own_ne HI0.out HO_5.out (by decide))) (blk_grown (g := gb104) (o := .cells #[.int .i64 ((rd_T46 s0_0 x1001_1).f0), .string ((rd_T46 s0_0 x1001_1).f1), .int .i64 ((rd_T46 s0_0 x1001_1).f2), .int .i64 ((rd_T46 s0_0 x1001_1).f3)] 46 (0, 0)) (bk_ BK104.out) hg (Kd.R_ne HO_5.out BK104.out (by decide))) (below_weaken (bl2_ HB.out (IsS69.ge HI0.out) GE104.out) HL.out hb) (KeepBut.trans (kk1_ HK.out GW104.out) (KeepBut.of_grown hg g) (Kd.R_base2 HO_5.out)) (ho) ?_; clear HI0 BK104 HB HK HO_5 HO108 HO112; intro HI0 BK104 HB HK HO119; clear ho hb hg hat)))))
        go_roundg k1
        case measure => have := HK1.out; omega
        case rel => exact ⟨(y117), (t114), (t115), (t116), H', ⟨by have := HK1.out; omega⟩, ⟨by (with_reducible repeat (first | apply Kd.R_alloc | apply Kd.R_drewN | apply Kd.R_drew)); exact Kd.R_mono HO119.out (fun _ hk => trivial)⟩, ⟨is69_1 HI0.out NB0_104.out⟩, ⟨by repeat (first | (with_reducible first | exact HK.out | apply KeepBut.set_ | apply keep_drewN | apply keep_drew | apply keep_alloc | refine keep_far ?_ GW104.out _) | exact HK.out)⟩, ⟨bl2_ HB.out (IsS69.ge HI0.out) GE104.out⟩⟩
       ·
        rw [if_neg c8] at H
        exact absurd H (by simp)
      ·
       rw [if_neg c6] at H
       have c6b0 := beq_eq_false_iff_ne.mpr c6
       have c6b1 := bne_iff_ne.mpr c6
       have HC23 := Aside0.mk H
       clear H
       obtain ⟨ASz24_0, cSz24_0, HGz24, hgz24, HSz24_0⟩ := HI0.out
       have hcz24_0 := cellS69_0 HGz24
       have hcz24_1 := cellS69_1 HGz24
       have hcz24_2 := cellS69_2 HGz24
       have hcz24_3 := cellS69_3 HGz24
       have hfz24_1 := blk_frozen HGz24 1
       have hfz24_2 := blk_frozen HGz24 2
       have hfz24_3 := blk_frozen HGz24 3
       clear HGz24 hgz24
       try go_wp2
       refine cut4_ (Kd.R_drew HO_5.out) (IsS69.drew HI0.out) (keep_drew HK.out) (below_drew1 HB.out) ?_
       clear HO_5 HI0 HK HB
       intro HO_5 HI0 HK HB
       obtain ⟨ASz26_0, cSz26_0, HGz26, hgz26, HSz26_0⟩ := HI0.out
       have hcz26_0 := cellS69_0 HGz26
       have hcz26_1 := cellS69_1 HGz26
       have hcz26_2 := cellS69_2 HGz26
       have hcz26_3 := cellS69_3 HGz26
       have hfz26_1 := blk_frozen HGz26 1
       have hfz26_2 := blk_frozen HGz26 2
       have hfz26_3 := blk_frozen HGz26 3
       clear HGz26 hgz26
       have p103 : 0 ≤ (x1001_1 : Int) := dt_
       have q103 : x1001_1 < (s0_0.length : Int) := dt_
       obtain ⟨ad103, e103, hx103_0, hx103_1, hx103_2, hx103_3⟩ := at_T46 HSz26_0 x1001_1 p103 q103
       have hw103_3 := hx103_3
       have hw103_2 := hx103_2
       have hw103_1 := hx103_1
       have hw103_0 := hx103_0
       cases e103
       replace hx103_0 := pw_cell_below HB.out hx103_0
       replace hx103_1 := pw_cell_below HB.out hx103_1
       replace hx103_2 := pw_cell_below HB.out hx103_2
       replace hx103_3 := pw_cell_below HB.out hx103_3
       replace p103 := eq_true p103
       replace q103 := eq_true q103
       refine start_ (n := 12) (S := fun w' => w'.cell? ⟨g, 0, none⟩ = some (.slice (some ad103) (s0_0).length cSz26_0) ∧ w'.cell? ⟨g, 1, none⟩ = some (.int .i64 x1001_1) ∧ w'.cell? ⟨g, 2, none⟩ = some (.int .i64 x1002_1) ∧ w'.cell? ⟨g, 3, none⟩ = some (.int .i64 x1003_1) ∧ w'.cell? (ad103.add ((x1001_1).toNat * 4)) = some (.int .i64 ((rd_T46 s0_0 x1001_1).f0)) ∧ w'.cell? ⟨(ad103.add ((x1001_1).toNat * 4)).block, (ad103.add ((x1001_1).toNat * 4)).off + 1, none⟩ = some (.string ((rd_T46 s0_0 x1001_1).f1)) ∧ w'.cell? ⟨(ad103.add ((x1001_1).toNat * 4)).block, (ad103.add ((x1001_1).toNat * 4)).off + 2, none⟩ = some (.int .i64 ((rd_T46 s0_0 x1001_1).f2)) ∧ w'.cell? ⟨(ad103.add ((x1001_1).toNat * 4)).block, (ad103.add ((x1001_1).toNat * 4)).off + 3, none⟩ = some (.int .i64 ((rd_T46 s0_0 x1001_1).f3))) (ds := []) #[false, false, false, false, false, false, false, false, false, false, false, false] (by kernel_rfl) rfl rfl ⟨hcz26_0, hcz26_1, hcz26_2, hcz26_3, (pw_cell_below HB.out hw103_0), (pw_cell_below HB.out hw103_1), (pw_cell_below HB.out hw103_2), (pw_cell_below HB.out hw103_3)⟩ (fun hHeld => ?_); refine with_tabW parser_parser_entries.tab3 parser_parser_entries.bits3 (fun HT_ HW_ => ?_)
       generalize wr.drew = w25 at HO_5 HI0 HK HB hx103_0 hx103_1 hx103_2 hx103_3 hHeld ⊢
       refine pr_ (i := 0) (N := some 13) #[true, false, false, false, false, false, false, false, false, false, false, false] (any_of HT_.out (by kernel_rfl)) ?_
       refine pr_ (i := 1) (N := some 14) #[true, true, false, false, false, false, false, false, false, false, false, false] (any_of HT_.out (by kernel_rfl)) ?_
       refine pr_ (i := 2) (N := some 15) #[true, true, true, false, false, false, false, false, false, false, false, false] (any_of HT_.out (by kernel_rfl)) ?_
       refine pr_ (i := 4) (N := some 17) #[true, true, true, false, true, false, false, false, false, false, false, false] (any_of HT_.out (by kernel_rfl)) ?_
       refine pr_ (i := 5) (N := some 18) #[true, true, true, false, true, true, false, false, false, false, false, false] (any_of HT_.out (by kernel_rfl)) ?_
       refine pr_ (i := 6) (N := some 19) #[true, true, true, false, true, true, true, false, false, false, false, false] (any_of HT_.out (by kernel_rfl)) ?_
       refine take_ (i := 3) (N := some 16) (v := ?_) (a' := ?_) #[true, true, true, true, true, true, true, false, false, false, false, false] rfl rfl (take_ofW HT_.out HW_.out (by kernel_rfl)) (fun _ _ _ h => h) (Or.inl ⟨by rfl, ?_⟩) hHeld ?_ ?_
       rotate_left
       ·
        rintro w' ⟨s0, s1, s2, s3, s4, s5, s6, s7⟩
        go_simp
        with_reducible rfl
       rotate_left
       ·
        simp only [Act.put, List.setIfInBounds_toArray, List.set_cons_zero, List.set_cons_succ, i64_w, i32_w]
        rfl
       refine take_ (i := 7) (N := some 20) (v := ?_) (a' := ?_) #[true, true, true, true, true, true, true, true, false, false, false, false] rfl rfl (take_ofW HT_.out HW_.out (by kernel_rfl)) (fun _ _ _ h => h) (Or.inl ⟨by rfl, ?_⟩) hHeld ?_ ?_
       rotate_left
       ·
        rintro w' ⟨s0, s1, s2, s3, s4, s5, s6, s7⟩
        go_simp
        with_reducible rfl
       rotate_left
       ·
        simp only [Act.put, List.setIfInBounds_toArray, List.set_cons_zero, List.set_cons_succ, i64_w, i32_w]
        rfl
       refine pr_ (i := 8) (N := some 21) #[true, true, true, true, true, true, true, true, true, false, false, false] (any_of HT_.out (by kernel_rfl)) ?_
       refine take_ (i := 9) (N := some 22) (v := ?_) (a' := ?_) #[true, true, true, true, true, true, true, true, true, true, false, false] rfl rfl (take_ofW HT_.out HW_.out (by kernel_rfl)) (fun _ _ _ h => h) (Or.inl ⟨by rfl, ?_⟩) hHeld ?_ ?_
       rotate_left
       ·
        rintro w' ⟨s0, s1, s2, s3, s4, s5, s6, s7⟩
        go_simp
        with_reducible rfl
       rotate_left
       ·
        simp only [Act.put, List.setIfInBounds_toArray, List.set_cons_zero, List.set_cons_succ, i64_w, i32_w]
        rfl
       refine one_ (i := 10) (N := some 6) #[true, true, true, true, true, true, true, true, true, true, true, false] rfl rfl (one_of HT_.out (by kernel_rfl)) (by decide) (fun K hK => ?_)
       refine box_step ?hg (N := 6) ?hd (cs := #[.int .i64 0, .string (⟨#[]⟩ : ByteArray), .int .i64 0, .int .i64 0]) (t := 46) ?hr ?_; (case hd => rfl); (case hg => rfl); (case hr => first | (go_simp; done) | (go_simp; rfl))
       intro gb104 hg w27 hbox hb
       have HS0_ := (hb.cell (World.block_lt_of_cell? _ _ (hHeld.1))).trans (hHeld.1)
       have HS1_ := (hb.cell (World.block_lt_of_cell? _ _ (hHeld.2.1))).trans (hHeld.2.1)
       have HS2_ := (hb.cell (World.block_lt_of_cell? _ _ (hHeld.2.2.1))).trans (hHeld.2.2.1)
       have HS3_ := (hb.cell (World.block_lt_of_cell? _ _ (hHeld.2.2.2.1))).trans (hHeld.2.2.2.1)
       refine cut9_ (Kd.R_below (Kd.R_elderB (rR_ HO_5.out) gb104 (Nat.le_of_eq hg.symm)) hb) (IsS69.below (is69_0 HI0.out) hb) (KeepBut.trans (kk_ HK.out) (KeepBut.of_below hb g none) (.inl rfl)) (below_step (bl1_ HB.out (IsS69.ge HI0.out)) hb) (hbox) (kz_ hg (kk_ HK.out)) ((Nat.le_trans HW0.out (by rw [hg]; exact (keep_size (w := w) (g := g) (row := none) (kk_ HK.out)) : w.heap.size ≤ gb104) : w0.heap.size ≤ gb104)) ((by rw [hg]; exact Nat.ne_of_lt (IsS69.lt (show IsS69 w0 _ g s0_0 x1001_1 x1002_1 x1003_1 from is69_0 HI0.out)) : g ≠ gb104)) ((by rw [hg]; exact Nat.ne_of_gt (IsS69.lt (show IsS69 w0 _ g s0_0 x1001_1 x1002_1 x1003_1 from is69_0 HI0.out)) : gb104 ≠ g)) ?_
       clear HO_5 HI0 HK HB
       intro HO_5 HI0 HK HB BK104 GW104 GE104 NB0_104 NB104_0
       clear hb hbox hg
       refine hK.out _ _ ⟨HS0_, HS1_, HS2_, HS3_, (pw_cell_below HB.out hw103_0), (pw_cell_below HB.out hw103_1), (pw_cell_below HB.out hw103_2), (pw_cell_below HB.out hw103_3)⟩ (fun hHeld => ?_)
       clear hK K
       refine norm_ (a' := ?_) ?_ ?_
       rotate_left
       ·
        show Act.put _ (some 6) _ = _
        simp only [Act.put, List.setIfInBounds_toArray, List.set_cons_zero, List.set_cons_succ, i64_w, i32_w]
        rfl
       refine one_ (i := 11) (N := none) #[true, true, true, true, true, true, true, true, true, true, true, true] rfl rfl (one_of HT_.out (by kernel_rfl)) (by decide) (fun K hK => ?_)
       have hs28 : w27.cell? ⟨gb104, 0, none⟩ = some (.int .i64 0) := (blk_cell BK104.out 0).trans rfl
       have hfs28 := blk_frozen BK104.out 0
       have hs29 : w27.cell? ⟨gb104, 1, none⟩ = some (.string (⟨#[]⟩ : ByteArray)) := (blk_cell BK104.out 1).trans rfl
       have hfs29 := blk_frozen BK104.out 1
       have hs30 : w27.cell? ⟨gb104, 2, none⟩ = some (.int .i64 0) := (blk_cell BK104.out 2).trans rfl
       have hfs30 := blk_frozen BK104.out 2
       have hs31 : w27.cell? ⟨gb104, 3, none⟩ = some (.int .i64 0) := (blk_cell BK104.out 3).trans rfl
       have hfs31 := blk_frozen BK104.out 3
       refine skip_ (w1 := ?_) (by rfl) rfl ?_ ?_
       rotate_left
       ·
        go_simp
        rfl
       refine hK.out _ _ ⟨(cf4_ gb104 (fs_ NB0_104.out) hHeld.1), (cf4_ gb104 (fs_ NB0_104.out) hHeld.2.1), (cf4_ gb104 (fs_ NB0_104.out) hHeld.2.2.1), (cf4_ gb104 (fs_ NB0_104.out) hHeld.2.2.2.1), (cf4_ gb104 (fr_ hw103_0 (Nat.le_trans HL.out GW104.out)) hHeld.2.2.2.2.1), (cf4_ gb104 (fr_ hw103_1 (Nat.le_trans HL.out GW104.out)) hHeld.2.2.2.2.2.1), (cf4_ gb104 (fr_ hw103_2 (Nat.le_trans HL.out GW104.out)) hHeld.2.2.2.2.2.2.1), (cf4_ gb104 (fr_ hw103_3 (Nat.le_trans HL.out GW104.out)) hHeld.2.2.2.2.2.2.2)⟩ (fun hHeld => ?_)
       clear hK K
       refine done_ (done_of HT_.out (by kernel_rfl)) ?_
       have hnb32 := NB104_0.out
       have hnc32 := NB0_104.out
       have hcz33_0 := cz_ (.int .i64 0) BK104.out 0
       have hcz33_1 := cz_ (.string (⟨#[]⟩ : ByteArray)) BK104.out 1
       have hcz33_2 := cz_ (.int .i64 0) BK104.out 2
       have hcz33_3 := cz_ (.int .i64 0) BK104.out 3
       have hfz33_0 := blk_frozen BK104.out 0
       have hfz33_1 := blk_frozen BK104.out 1
       have hfz33_2 := blk_frozen BK104.out 2
       have hfz33_3 := blk_frozen BK104.out 3
       go_upto_region 7 with (fail)
       go_cut [35] (fun v35 wc => ∃ (kq : Nat) (x35_22 : Bool), v35 = .bool x35_22 ∧ Aside0 (parser_parser_entries.j1 NF kq a1 x5_1 x35_22 s0_0 x1001_1 x1002_1 x1003_1 ((rd_T46 s0_0 x1001_1).f0) ((rd_T46 s0_0 x1001_1).f1) ((rd_T46 s0_0 x1001_1).f2) ((rd_T46 s0_0 x1001_1).f3) = some (r1, r2, r3, r4)) ∧ Aside0 (kq ≤ k1) ∧ Aside0 (Kd.R k41 41 wc w.heap.size (fun k_ => k_ ≠ gb104) u5 x5_1) ∧ Aside0 (wc.heap[gb104]? = some (.cells #[.int .i64 ((rd_T46 s0_0 x1001_1).f0), .string ((rd_T46 s0_0 x1001_1).f1), .int .i64 ((rd_T46 s0_0 x1001_1).f2), .int .i64 ((rd_T46 s0_0 x1001_1).f3)] 46 (0, 0))) ∧ Aside0 (IsS69 w0 wc g s0_0 x1001_1 x1002_1 x1003_1) ∧ Aside0 (KeepBut w wc g none) ∧ Aside0 (Below w0.heap.size w0 wc))
       case first =>
        have H := HC23.out
        clear HC23
        by_cases c34 : a1 = 0
        ·
         rw [if_pos c34] at H
         have c34b0 := beq_iff_eq.mpr c34
         have c34b1 := bne_eq_false_iff_eq.mpr c34
         clear c34
         (first | rw [c34b0] | (simp only [i64_w, i32_w]; rw [c34b0]) | skip)
         have H' := Aside0.mk H
         clear H
         have hnb35 := NB104_0.out
         have hnc35 := NB0_104.out
         have hcz36_0 := cz_ (.int .i64 0) BK104.out 0
         have hcz36_1 := cz_ (.string (⟨#[]⟩ : ByteArray)) BK104.out 1
         have hcz36_2 := cz_ (.int .i64 0) BK104.out 2
         have hcz36_3 := cz_ (.int .i64 0) BK104.out 3
         have hfz36_0 := blk_frozen BK104.out 0
         have hfz36_1 := blk_frozen BK104.out 1
         have hfz36_2 := blk_frozen BK104.out 2
         have hfz36_3 := blk_frozen BK104.out 3
         go_wp2
         iterate 3 (try (go_step3; (try go_wp2)))
         go_meet
         case rel => exact ⟨_, ((((rd_T46 s0_0 x1001_1).f0) == 5)), sr_, H', ⟨by have := HK1.out; first | omega | exact Nat.le_refl _⟩, ⟨by (with_reducible repeat (first | apply Kd.R_alloc | apply Kd.R_drewN | apply Kd.R_drew)); exact Kd.R_mono (Kd.R_far (p := ⟨gb104, 3, none⟩) (Kd.R_far (p := ⟨gb104, 2, none⟩) (Kd.R_far (p := ⟨gb104, 1, none⟩) (Kd.R_far (p := ⟨gb104, 0, none⟩) (Kd.R_mono HO_5.out (fun k_ hk => (⟨hk, hk.2⟩ : _ ∧ k_ ≠ gb104))) (fun _ hk => hk.2) (.int .i64 ((rd_T46 s0_0 x1001_1).f0))) (fun _ hk => hk.2) (.string ((rd_T46 s0_0 x1001_1).f1))) (fun _ hk => hk.2) (.int .i64 ((rd_T46 s0_0 x1001_1).f2))) (fun _ hk => hk.2) (.int .i64 ((rd_T46 s0_0 x1001_1).f3))) (fun _ hk => hk.1.2)⟩, ⟨by exact put4_ (bk_ BK104.out)⟩, ⟨is69_1 HI0.out NB0_104.out⟩, ⟨by repeat (first | (with_reducible first | exact HK.out | apply KeepBut.set_ | apply keep_drewN | apply keep_drew | apply keep_alloc | refine keep_far ?_ GW104.out _) | exact HK.out)⟩, ⟨bl2_ HB.out (IsS69.ge HI0.out) GE104.out⟩⟩
        ·
         rw [if_neg c34] at H
         have c34b0 := beq_eq_false_iff_ne.mpr c34
         have c34b1 := bne_iff_ne.mpr c34
         (first | rw [c34b0] | (simp only [i64_w, i32_w]; rw [c34b0]) | skip)
         have H' := Aside0.mk H
         clear H
         go_wp2
         iterate 3 (try (go_step3; (try go_wp2)))
         go_meet
         case rel => exact ⟨_, (false), sr_, H', ⟨by have := HK1.out; first | omega | exact Nat.le_refl _⟩, ⟨by (with_reducible repeat (first | apply Kd.R_alloc | apply Kd.R_drewN | apply Kd.R_drew)); exact Kd.R_mono (Kd.R_far (p := ⟨gb104, 3, none⟩) (Kd.R_far (p := ⟨gb104, 2, none⟩) (Kd.R_far (p := ⟨gb104, 1, none⟩) (Kd.R_far (p := ⟨gb104, 0, none⟩) (Kd.R_mono HO_5.out (fun k_ hk => (⟨hk, hk.2⟩ : _ ∧ k_ ≠ gb104))) (fun _ hk => hk.2) (.int .i64 ((rd_T46 s0_0 x1001_1).f0))) (fun _ hk => hk.2) (.string ((rd_T46 s0_0 x1001_1).f1))) (fun _ hk => hk.2) (.int .i64 ((rd_T46 s0_0 x1001_1).f2))) (fun _ hk => hk.2) (.int .i64 ((rd_T46 s0_0 x1001_1).f3))) (fun _ hk => hk.1.2)⟩, ⟨by exact put4_ (bk_ BK104.out)⟩, ⟨is69_1 HI0.out NB0_104.out⟩, ⟨by repeat (first | (with_reducible first | exact HK.out | apply KeepBut.set_ | apply keep_drewN | apply keep_drew | apply keep_alloc | refine keep_far ?_ GW104.out _) | exact HK.out)⟩, ⟨bl2_ HB.out (IsS69.ge HI0.out) GE104.out⟩⟩
       case rest =>
        clear HC23
        try clear c1
        try clear p1
        try clear q1
        try clear hx1
        try clear p2
        try clear c3
        try clear c3b0
        try clear c3b1
        try clear p3
        try clear c4
        try clear c4b0
        try clear c5
        try clear c5b0
        try clear c6
        try clear c6b0
        try clear c6b1
        try clear c7
        try clear c8
        try clear p10
        try clear q10
        try clear hx10
        try clear c17
        try clear c32
        try clear c34
        try clear c34b0
        try clear c34b1
        try clear c35
        try clear hcz11_0
        try clear hcz11_1
        try clear hcz11_2
        try clear hcz11_3
        try clear hcz18_0
        try clear hcz18_1
        try clear hcz18_2
        try clear hcz18_3
        try clear hcz24_0
        try clear hcz24_1
        try clear hcz24_2
        try clear hcz24_3
        try clear hcz26_0
        try clear hcz26_1
        try clear hcz26_2
        try clear hcz26_3
        try clear hcz33_0
        try clear hcz33_1
        try clear hcz33_2
        try clear hcz33_3
        try clear hcz36_0
        try clear hcz36_1
        try clear hcz36_2
        try clear hcz36_3
        try clear hcz9_0
        try clear hcz9_1
        try clear hcz9_2
        try clear hcz9_3
        try clear hfz11_1
        try clear hfz11_2
        try clear hfz11_3
        try clear hfz18_0
        try clear hfz18_1
        try clear hfz18_2
        try clear hfz18_3
        try clear hfz24_1
        try clear hfz24_2
        try clear hfz24_3
        try clear hfz26_1
        try clear hfz26_2
        try clear hfz26_3
        try clear hfz33_0
        try clear hfz33_1
        try clear hfz33_2
        try clear hfz33_3
        try clear hfz36_0
        try clear hfz36_1
        try clear hfz36_2
        try clear hfz36_3
        try clear hfz9_1
        try clear hfz9_2
        try clear hfz9_3
        try clear hx103_0
        try clear hx103_1
        try clear hx103_2
        try clear hx103_3
        try clear p103
        try clear p2
        try clear q103
        obtain ⟨kq, x35_22, rfl, HA, HJ22, HO_5, BK104, HI0, HK, HB⟩ := hcut
        cases kq with
        | zero => exact absurd HA.out (by simp [parser_parser_entries.j1])
        | succ kj22 =>
         have H := HA.out
         clear HA
         simp only [parser_parser_entries.j1] at H
         by_cases c37 : x35_22 = true
         ·
          subst c37
          have H1 : (some (x5_1, x1001_1, x1002_1, x1003_1)) = some (r1, r2, r3, r4) := by rw [if_pos rfl] at H; exact H
          clear H
          have H := H1
          clear H1
          simp only [Option.some.injEq, Prod.mk.injEq] at H
          obtain ⟨rfl, rfl, rfl, rfl⟩ := H
          go_wp2
          iterate 3 (try (go_step3; (try go_wp2)))
          (try rw [Exit.noGoto_ret])
          go_ret
          exact ⟨_, er_, by (with_reducible repeat (first | apply Kd.R_alloc | apply Kd.R_drewN | apply Kd.R_drew)); exact Kd.R_mono HO_5.out (fun _ hk => trivial), is69_1 HI0.out NB0_104.out, by repeat (first | (with_reducible first | exact HB.out | apply below_alloc | apply pw_below_drewN | apply below_drew1 | refine below_set ?_ (IsS69.ge HI0.out) | refine below_set ?_ GE104.out) | exact HB.out), by repeat (first | (with_reducible first | exact HK.out | apply KeepBut.set_ | apply keep_drewN | apply keep_drew | apply keep_alloc | refine keep_far ?_ GW104.out _) | exact HK.out)⟩
         ·
          replace c37 := Bool.eq_false_iff.mpr c37
          subst c37
          have H1 : (if a1 > 0 then ((parser_sign.f ((rd_T46 s0_0 x1001_1).f0) ((rd_T46 s0_0 x1001_1).f1) ((rd_T46 s0_0 x1001_1).f2) ((rd_T46 s0_0 x1001_1).f3) (⟨#[125]⟩ : ByteArray)).bind fun t120 => (if t120 = true then (some (x5_1, x1001_1, x1002_1, x1003_1)) else ((parser_parser_fail.f s0_0 x1001_1 x1002_1 x1003_1 2).bind fun bt121 => (parser_parser_entries.l0 NF kj22 a1 x5_1 s0_0 bt121.1 bt121.2.1 bt121.2.2)))) else ((parser_parser_fail.f s0_0 x1001_1 x1002_1 x1003_1 2).bind fun bt124 => (parser_parser_entries.l0 NF kj22 a1 x5_1 s0_0 bt124.1 bt124.2.1 bt124.2.2))) = some (r1, r2, r3, r4) := by rw [if_neg (show ¬ (false = true) by decide)] at H; exact H
          clear H
          have H := H1
          clear H1
          by_cases c38 : a1 > 0
          ·
           rw [if_pos c38] at H
           have c38b0 := decide_eq_true c38
           clear c38
           replace H := Option.bind_eq_some_iff.mp H
           obtain ⟨t120, A390, H⟩ := H
           (try dsimp only at H)
           have A39 := Aside0.mk A390
           clear A390
           by_cases c40 : t120 = true
           ·
            subst c40
            have H1 : (some (x5_1, x1001_1, x1002_1, x1003_1)) = some (r1, r2, r3, r4) := by rw [if_pos rfl] at H; exact H
            clear H
            have H := H1
            clear H1
            simp only [Option.some.injEq, Prod.mk.injEq] at H
            obtain ⟨rfl, rfl, rfl, rfl⟩ := H
            have hnb41 := NB104_0.out
            have hnc41 := NB0_104.out
            have hcz42_0 := cz_ (.int .i64 ((rd_T46 s0_0 x1001_1).f0)) BK104.out 0
            have hcz42_1 := cz_ (.string ((rd_T46 s0_0 x1001_1).f1)) BK104.out 1
            have hcz42_2 := cz_ (.int .i64 ((rd_T46 s0_0 x1001_1).f2)) BK104.out 2
            have hcz42_3 := cz_ (.int .i64 ((rd_T46 s0_0 x1001_1).f3)) BK104.out 3
            have hfz42_0 := blk_frozen BK104.out 0
            have hfz42_1 := blk_frozen BK104.out 1
            have hfz42_2 := blk_frozen BK104.out 2
            have hfz42_3 := blk_frozen BK104.out 3
            go_wp2_with (first | (go_at_call 77; (with_reducible refine (parser_sign.calls ((rd_T46 s0_0 x1001_1).f0) ((rd_T46 s0_0 x1001_1).f1) ((rd_T46 s0_0 x1001_1).f2) ((rd_T46 s0_0 x1001_1).f3) (⟨#[125]⟩ : ByteArray) true _ A39.out).mono ?_); rintro e w43 ⟨rfl, hb⟩; refine cut5_ (Kd.R_below (rR_ HO_5.out) hb) (bb_ BK104.out hb) (IsS69.below (is69_1 HI0.out NB0_104.out) hb) (KeepBut.trans (kk1_ HK.out GW104.out) (KeepBut.of_below hb g none) (.inl rfl)) (below_step (bl2_ HB.out (IsS69.ge HI0.out) GE104.out) hb) ?_; clear HO_5 BK104 HI0 HK HB; intro HO_5 BK104 HI0 HK HB; (try clear hb); (try clear hb2); (try clear hk); (try clear hi)))
            iterate 3 (try (go_step3; (try go_wp2_with (first | (go_at_call 77; (with_reducible refine (parser_sign.calls ((rd_T46 s0_0 x1001_1).f0) ((rd_T46 s0_0 x1001_1).f1) ((rd_T46 s0_0 x1001_1).f2) ((rd_T46 s0_0 x1001_1).f3) (⟨#[125]⟩ : ByteArray) true _ A39.out).mono ?_); rintro e w43 ⟨rfl, hb⟩; refine cut5_ (Kd.R_below (rR_ HO_5.out) hb) (bb_ BK104.out hb) (IsS69.below (is69_1 HI0.out NB0_104.out) hb) (KeepBut.trans (kk1_ HK.out GW104.out) (KeepBut.of_below hb g none) (.inl rfl)) (below_step (bl2_ HB.out (IsS69.ge HI0.out) GE104.out) hb) ?_; clear HO_5 BK104 HI0 HK HB; intro HO_5 BK104 HI0 HK HB; (try clear hb); (try clear hb2); (try clear hk); (try clear hi))))))
            (try rw [Exit.noGoto_ret])
            go_ret
            exact ⟨_, er_, by (with_reducible repeat (first | apply Kd.R_alloc | apply Kd.R_drewN | apply Kd.R_drew)); exact Kd.R_mono HO_5.out (fun _ hk => trivial), is69_1 HI0.out NB0_104.out, by repeat (first | (with_reducible first | exact HB.out | apply below_alloc | apply pw_below_drewN | apply below_drew1 | refine below_set ?_ (IsS69.ge HI0.out) | refine below_set ?_ GE104.out) | exact HB.out), by repeat (first | (with_reducible first | exact HK.out | apply KeepBut.set_ | apply keep_drewN | apply keep_drew | apply keep_alloc | refine keep_far ?_ GW104.out _) | exact HK.out)⟩
           ·
            replace c40 := Bool.eq_false_iff.mpr c40
            subst c40
            have H1 : ((parser_parser_fail.f s0_0 x1001_1 x1002_1 x1003_1 2).bind fun bt121 => (parser_parser_entries.l0 NF kj22 a1 x5_1 s0_0 bt121.1 bt121.2.1 bt121.2.2)) = some (r1, r2, r3, r4) := by rw [if_neg (show ¬ (false = true) by decide)] at H; exact H
            clear H
            have H := H1
            clear H1
            replace H := Option.bind_eq_some_iff.mp H
            obtain ⟨⟨t121, t122, t123⟩, A440, H⟩ := H
            (try dsimp only at H)
            have A44 := Aside0.mk A440
            clear A440
            have H' := Aside0.mk H
            clear H
            have hnb45 := NB104_0.out
            have hnc45 := NB0_104.out
            have hcz46_0 := cz_ (.int .i64 ((rd_T46 s0_0 x1001_1).f0)) BK104.out 0
            have hcz46_1 := cz_ (.string ((rd_T46 s0_0 x1001_1).f1)) BK104.out 1
            have hcz46_2 := cz_ (.int .i64 ((rd_T46 s0_0 x1001_1).f2)) BK104.out 2
            have hcz46_3 := cz_ (.int .i64 ((rd_T46 s0_0 x1001_1).f3)) BK104.out 3
            have hfz46_0 := blk_frozen BK104.out 0
            have hfz46_1 := blk_frozen BK104.out 1
            have hfz46_2 := blk_frozen BK104.out 2
            have hfz46_3 := blk_frozen BK104.out 3
            go_wp2_with (first | (go_at_call 77; (with_reducible refine (parser_sign.calls ((rd_T46 s0_0 x1001_1).f0) ((rd_T46 s0_0 x1001_1).f1) ((rd_T46 s0_0 x1001_1).f2) ((rd_T46 s0_0 x1001_1).f3) (⟨#[125]⟩ : ByteArray) false _ A39.out).mono ?_); rintro e w47 ⟨rfl, hb⟩; refine cut5_ (Kd.R_below (rR_ HO_5.out) hb) (bb_ BK104.out hb) (IsS69.below (is69_1 HI0.out NB0_104.out) hb) (KeepBut.trans (kk1_ HK.out GW104.out) (KeepBut.of_below hb g none) (.inl rfl)) (below_step (bl2_ HB.out (IsS69.ge HI0.out) GE104.out) hb) ?_; clear HO_5 BK104 HI0 HK HB; intro HO_5 BK104 HI0 HK HB; (try clear hb); (try clear hb2); (try clear hk); (try clear hi)) | ((with_reducible refine gate_callee (f := 78) rfl ?_); refine goesL_ (some 24) rfl rfl Tryd.func78 (by kernel_rfl) rfl #[.pointer (some ⟨g, 0, none⟩), .int .i64 2] rfl ga_ ?_; (with_reducible refine (parser_parser_fail.calls g s0_0 x1001_1 x1002_1 x1003_1 2 t121 t122 t123 w0 _ ?side1 ?side2 A44.out).mono ?_); (case side1 => exact is69_1 HI0.out NB0_104.out); (case side2 => repeat (first | (with_reducible first | exact HB.out | apply below_alloc | apply pw_below_drewN | apply below_drew1 | refine below_set ?_ (IsS69.ge HI0.out) | refine below_set ?_ GE104.out) | exact HB.out)); rintro e w48 ⟨rfl, hi, hb, hk⟩; refine ⟨_, rfl, ?_⟩; refine cut5_ (Kd.R_mono (Kd.R_keep (IsS69.apart (show IsS69 w0 _ g s0_0 x1001_1 x1002_1 x1003_1 from is69_1 HI0.out NB0_104.out) (rR_ HO_5.out) (by decide)) hk (fun _ h => h.2)) (fun _ h => h.1)) (KeepBut.blk hk (g' := gb104) (o := .cells #[.int .i64 ((rd_T46 s0_0 x1001_1).f0), .string ((rd_T46 s0_0 x1001_1).f1), .int .i64 ((rd_T46 s0_0 x1001_1).f2), .int .i64 ((rd_T46 s0_0 x1001_1).f3)] 46 (0, 0)) (bk_ BK104.out) NB104_0.out (by simp)) (KeepBut.trans (kk1_ HK.out GW104.out) hk (.inl rfl)) (hb) (hi) ?_; clear HO_5 BK104 HK HB HI0; intro HO_5 BK104 HK HB HI0; (try clear hb); (try clear hb2); (try clear hk); (try clear hi)))
            iterate 3 (try (go_step3; (try go_wp2_with (first | (go_at_call 77; (with_reducible refine (parser_sign.calls ((rd_T46 s0_0 x1001_1).f0) ((rd_T46 s0_0 x1001_1).f1) ((rd_T46 s0_0 x1001_1).f2) ((rd_T46 s0_0 x1001_1).f3) (⟨#[125]⟩ : ByteArray) false _ A39.out).mono ?_); rintro e w47 ⟨rfl, hb⟩; refine cut5_ (Kd.R_below (rR_ HO_5.out) hb) (bb_ BK104.out hb) (IsS69.below (is69_1 HI0.out NB0_104.out) hb) (KeepBut.trans (kk1_ HK.out GW104.out) (KeepBut.of_below hb g none) (.inl rfl)) (below_step (bl2_ HB.out (IsS69.ge HI0.out) GE104.out) hb) ?_; clear HO_5 BK104 HI0 HK HB; intro HO_5 BK104 HI0 HK HB; (try clear hb); (try clear hb2); (try clear hk); (try clear hi)) | ((with_reducible refine gate_callee (f := 78) rfl ?_); refine goesL_ (some 24) rfl rfl Tryd.func78 (by kernel_rfl) rfl #[.pointer (some ⟨g, 0, none⟩), .int .i64 2] rfl ga_ ?_; (with_reducible refine (parser_parser_fail.calls g s0_0 x1001_1 x1002_1 x1003_1 2 t121 t122 t123 w0 _ ?side1 ?side2 A44.out).mono ?_); (case side1 => exact is69_1 HI0.out NB0_104.out); (case side2 => repeat (first | (with_reducible first | exact HB.out | apply below_alloc | apply pw_below_drewN | apply below_drew1 | refine below_set ?_ (IsS69.ge HI0.out) | refine below_set ?_ GE104.out) | exact HB.out)); rintro e w48 ⟨rfl, hi, hb, hk⟩; refine ⟨_, rfl, ?_⟩; refine cut5_ (Kd.R_mono (Kd.R_keep (IsS69.apart (show IsS69 w0 _ g s0_0 x1001_1 x1002_1 x1003_1 from is69_1 HI0.out NB0_104.out) (rR_ HO_5.out) (by decide)) hk (fun _ h => h.2)) (fun _ h => h.1)) (KeepBut.blk hk (g' := gb104) (o := .cells #[.int .i64 ((rd_T46 s0_0 x1001_1).f0), .string ((rd_T46 s0_0 x1001_1).f1), .int .i64 ((rd_T46 s0_0 x1001_1).f2), .int .i64 ((rd_T46 s0_0 x1001_1).f3)] 46 (0, 0)) (bk_ BK104.out) NB104_0.out (by simp)) (KeepBut.trans (kk1_ HK.out GW104.out) hk (.inl rfl)) (hb) (hi) ?_; clear HO_5 BK104 HK HB HI0; intro HO_5 BK104 HK HB HI0; (try clear hb); (try clear hb2); (try clear hk); (try clear hi))))))
            go_roundg kj22
            case measure => have := HK1.out; have := HJ22.out; omega
            case rel => exact ⟨(x5_1), (t121), (t122), (t123), H', ⟨by have := HK1.out; have := HJ22.out; omega⟩, ⟨by (with_reducible repeat (first | apply Kd.R_alloc | apply Kd.R_drewN | apply Kd.R_drew)); exact Kd.R_mono HO_5.out (fun _ hk => trivial)⟩, ⟨is69_1 HI0.out NB0_104.out⟩, ⟨by repeat (first | (with_reducible first | exact HK.out | apply KeepBut.set_ | apply keep_drewN | apply keep_drew | apply keep_alloc | refine keep_far ?_ GW104.out _) | exact HK.out)⟩, ⟨bl2_ HB.out (IsS69.ge HI0.out) GE104.out⟩⟩
          ·
           rw [if_neg c38] at H
           have c38b0 := decide_eq_false c38
           clear c38
           replace H := Option.bind_eq_some_iff.mp H
           obtain ⟨⟨t124, t125, t126⟩, A490, H⟩ := H
           (try dsimp only at H)
           have A49 := Aside0.mk A490
           clear A490
           have H' := Aside0.mk H
           clear H
           go_wp2_with (first | ((with_reducible refine gate_callee (f := 78) rfl ?_); refine goesL_ (some 24) rfl rfl Tryd.func78 (by kernel_rfl) rfl #[.pointer (some ⟨g, 0, none⟩), .int .i64 2] rfl ga_ ?_; (with_reducible refine (parser_parser_fail.calls g s0_0 x1001_1 x1002_1 x1003_1 2 t124 t125 t126 w0 _ ?side1 ?side2 A49.out).mono ?_); (case side1 => exact is69_1 HI0.out NB0_104.out); (case side2 => repeat (first | (with_reducible first | exact HB.out | apply below_alloc | apply pw_below_drewN | apply below_drew1 | refine below_set ?_ (IsS69.ge HI0.out) | refine below_set ?_ GE104.out) | exact HB.out)); rintro e w50 ⟨rfl, hi, hb, hk⟩; refine ⟨_, rfl, ?_⟩; refine cut5_ (Kd.R_mono (Kd.R_keep (IsS69.apart (show IsS69 w0 _ g s0_0 x1001_1 x1002_1 x1003_1 from is69_1 HI0.out NB0_104.out) (rR_ HO_5.out) (by decide)) hk (fun _ h => h.2)) (fun _ h => h.1)) (KeepBut.blk hk (g' := gb104) (o := .cells #[.int .i64 ((rd_T46 s0_0 x1001_1).f0), .string ((rd_T46 s0_0 x1001_1).f1), .int .i64 ((rd_T46 s0_0 x1001_1).f2), .int .i64 ((rd_T46 s0_0 x1001_1).f3)] 46 (0, 0)) (bk_ BK104.out) NB104_0.out (by simp)) (KeepBut.trans (kk1_ HK.out GW104.out) hk (.inl rfl)) (hb) (hi) ?_; clear HO_5 BK104 HK HB HI0; intro HO_5 BK104 HK HB HI0; (try clear hb); (try clear hb2); (try clear hk); (try clear hi)))
           iterate 3 (try (go_step3; (try go_wp2_with (first | ((with_reducible refine gate_callee (f := 78) rfl ?_); refine goesL_ (some 24) rfl rfl Tryd.func78 (by kernel_rfl) rfl #[.pointer (some ⟨g, 0, none⟩), .int .i64 2] rfl ga_ ?_; (with_reducible refine (parser_parser_fail.calls g s0_0 x1001_1 x1002_1 x1003_1 2 t124 t125 t126 w0 _ ?side1 ?side2 A49.out).mono ?_); (case side1 => exact is69_1 HI0.out NB0_104.out); (case side2 => repeat (first | (with_reducible first | exact HB.out | apply below_alloc | apply pw_below_drewN | apply below_drew1 | refine below_set ?_ (IsS69.ge HI0.out) | refine below_set ?_ GE104.out) | exact HB.out)); rintro e w50 ⟨rfl, hi, hb, hk⟩; refine ⟨_, rfl, ?_⟩; refine cut5_ (Kd.R_mono (Kd.R_keep (IsS69.apart (show IsS69 w0 _ g s0_0 x1001_1 x1002_1 x1003_1 from is69_1 HI0.out NB0_104.out) (rR_ HO_5.out) (by decide)) hk (fun _ h => h.2)) (fun _ h => h.1)) (KeepBut.blk hk (g' := gb104) (o := .cells #[.int .i64 ((rd_T46 s0_0 x1001_1).f0), .string ((rd_T46 s0_0 x1001_1).f1), .int .i64 ((rd_T46 s0_0 x1001_1).f2), .int .i64 ((rd_T46 s0_0 x1001_1).f3)] 46 (0, 0)) (bk_ BK104.out) NB104_0.out (by simp)) (KeepBut.trans (kk1_ HK.out GW104.out) hk (.inl rfl)) (hb) (hi) ?_; clear HO_5 BK104 HK HB HI0; intro HO_5 BK104 HK HB HI0; (try clear hb); (try clear hb2); (try clear hk); (try clear hi))))))
           go_roundg kj22
           case measure => have := HK1.out; have := HJ22.out; omega
           case rel => exact ⟨(x5_1), (t124), (t125), (t126), H', ⟨by have := HK1.out; have := HJ22.out; omega⟩, ⟨by (with_reducible repeat (first | apply Kd.R_alloc | apply Kd.R_drewN | apply Kd.R_drew)); exact Kd.R_mono HO_5.out (fun _ hk => trivial)⟩, ⟨is69_1 HI0.out NB0_104.out⟩, ⟨by repeat (first | (with_reducible first | exact HK.out | apply KeepBut.set_ | apply keep_drewN | apply keep_drew | apply keep_alloc | refine keep_far ?_ GW104.out _) | exact HK.out)⟩, ⟨bl2_ HB.out (IsS69.ge HI0.out) GE104.out⟩⟩
     ·
      rw [if_neg c5] at H
      exact absurd H (by simp)
    ·
     rw [if_neg c4] at H
     exact absurd H (by simp)
   ·
    rw [if_neg c3] at H
    have c3b0 := beq_eq_false_iff_ne.mpr c3
    have c3b1 := bne_iff_ne.mpr c3
    simp only [Option.some.injEq, Prod.mk.injEq] at H
    obtain ⟨rfl, rfl, rfl, rfl⟩ := H
    obtain ⟨ASz51_0, cSz51_0, HGz51, hgz51, HSz51_0⟩ := HI0.out
    have hcz51_0 := cellS69_0 HGz51
    have hcz51_1 := cellS69_1 HGz51
    have hcz51_2 := cellS69_2 HGz51
    have hcz51_3 := cellS69_3 HGz51
    have hfz51_1 := blk_frozen HGz51 1
    have hfz51_2 := blk_frozen HGz51 2
    have hfz51_3 := blk_frozen HGz51 3
    clear HGz51 hgz51
    go_wp2
    iterate 3 (try (go_step3; (try go_wp2)))
    (try rw [Exit.noGoto_ret])
    go_ret
    exact ⟨_, er_, by (with_reducible repeat (first | apply Kd.R_alloc | apply Kd.R_drewN | apply Kd.R_drew)); exact HO_5.out, is69_0 HI0.out, by repeat (first | (with_reducible first | exact HB.out | apply below_alloc | apply pw_below_drewN | apply below_drew1 | refine below_set ?_ (IsS69.ge HI0.out)) | exact HB.out), by repeat (first | (with_reducible first | exact HK.out | apply KeepBut.set_ | apply keep_drewN | apply keep_drew | apply keep_alloc) | exact HK.out)⟩
end Go.Proofs.YtkifdadhojbohaaDoor.Pr
namespace Go.Proofs.YtkifdadhojbohaaDoor.Pr
open Go.Proofs.YtkifdadhojbohaaDoor
open Go.RowKit Go.Proofs.YtkifdadhojbohaaDoorW.PrintWords Go.Proofs.YtkifdadhojbohaaDoorW.PrintLast Go.Proofs.YtkifdadhojbohaaDoorW.PrintMore
/-- entries, with calls up to the depth d. -/
def entT : Nat → (Nat → List S46 → Int → Int → Int → Int → Option (List S41 × Int × Int × Int))
 | 0 => fun _ _ _ _ _ _ => none
 | d + 1 => fun k s a b c o => parser_parser_entries.f (fun j s a b c o => parser_parser_entry.f (entT d) j s a b c o) k s a b c o
theorem entT_calls : ∀ (d : Nat) (k : Nat) (g : Nat) (s0_0 : List (S46)) (s0_1 : Int) (s0_2 : Int) (s0_3 : Int) (a1 : Int) (r1 : List (S41)) (r2 : Int) (r3 : Int) (r4 : Int) (w0 w : World) (_ : IsS69 w0 w g s0_0 s0_1 s0_2 s0_3) (_ : Below w0.heap.size w0 w) (_ : entT d k s0_0 s0_1 s0_2 s0_3 a1 = some (r1, r2, r3, r4)),
  Calls Tryd.prog 52 #[.pointer (some ⟨g, 0, none⟩), .int .i64 a1] w fun e w' => ∃ v0_ : Value, e = .returned (v0_) ∧ Kd.R k41 41 w' w.heap.size (fun _ => True) v0_ r1 ∧ IsS69 w0 w' g s0_0 r2 r3 r4 ∧ Below w0.heap.size w0 w' ∧ KeepBut w w' g none := by
 intro d
 induction d with
 | zero => intro k g s0_0 s0_1 s0_2 s0_3 a1 r1 r2 r3 r4 w0 w _ _ h; cases h
 | succ d ih =>
  intro k g s0_0 s0_1 s0_2 s0_3 a1 r1 r2 r3 r4 w0 w hI hB h
  exact parser_parser_entries.calls _ (fun k g s0_0 s0_1 s0_2 s0_3 a1 r1 r2 r3 r4 r5 r6 r7 r8 w0 w hI hB h => parser_parser_entry.calls (entT d) ih k g s0_0 s0_1 s0_2 s0_3 a1 r1 r2 r3 r4 r5 r6 r7 r8 w0 w hI hB h) k g s0_0 s0_1 s0_2 s0_3 a1 r1 r2 r3 r4 w0 w hI hB h
theorem entry_le (EF EG : Nat → List S46 → Int → Int → Int → Int → Option (List S41 × Int × Int × Int)) (h : ∀ k s a b c o, LeO (EF k s a b c o) (EG k s a b c o)) : ∀ k, (∀ y0 y1 y2 y3 y4 y5 y6 y7 y8, LeO (parser_parser_entry.l0 EF k y0 y1 y2 y3 y4 y5 y6 y7 y8) (parser_parser_entry.l0 EG k y0 y1 y2 y3 y4 y5 y6 y7 y8)) ∧ (∀ y0 y1 y2 y3 y4 y5 y6 y7 y8 y9 y10 y11 y12 y13, LeO (parser_parser_entry.j1 EF k y0 y1 y2 y3 y4 y5 y6 y7 y8 y9 y10 y11 y12 y13) (parser_parser_entry.j1 EG k y0 y1 y2 y3 y4 y5 y6 y7 y8 y9 y10 y11 y12 y13))
 | 0 => ⟨fun _ _ _ _ _ _ _ _ _ r h => by simp [parser_parser_entry.l0] at h, fun _ _ _ _ _ _ _ _ _ _ _ _ _ _ r h => by simp [parser_parser_entry.j1] at h⟩
 | k + 1 => by
  obtain ⟨i0, i1⟩ := entry_le EF EG h k
  refine ⟨?_, ?_⟩
  ·
   intro y0 y1 y2 y3 y4 y5 y6 y7 y8
   simp only [parser_parser_entry.l0]
   repeat' first
    | exact h _ _ _ _ _ _
    | exact i0 _ _ _ _ _ _ _ _ _
    | exact i1 _ _ _ _ _ _ _ _ _ _ _ _ _ _
    | exact LeO.refl _
    | exact LeO.none _
    | refine LeO.ite ?_ ?_
    | refine LeO.bind ?_ (fun _ => ?_)
  ·
   intro y0 y1 y2 y3 y4 y5 y6 y7 y8 y9 y10 y11 y12 y13
   simp only [parser_parser_entry.j1]
   repeat' first
    | exact h _ _ _ _ _ _
    | exact i0 _ _ _ _ _ _ _ _ _
    | exact i1 _ _ _ _ _ _ _ _ _ _ _ _ _ _
    | exact LeO.refl _
    | exact LeO.none _
    | refine LeO.ite ?_ ?_
    | refine LeO.bind ?_ (fun _ => ?_)
theorem entry_leF (EF EG : Nat → List S46 → Int → Int → Int → Int → Option (List S41 × Int × Int × Int)) (h : ∀ k s a b c o, LeO (EF k s a b c o) (EG k s a b c o)) (k : Nat) (s : List S46) (a b c o : Int) :
  LeO (parser_parser_entry.f EF k s a b c o) (parser_parser_entry.f EG k s a b c o) := by
 obtain ⟨i0, i1⟩ := entry_le EF EG h k
 unfold parser_parser_entry.f
 repeat' first
  | exact i0 _ _ _ _ _ _ _ _ _
  | exact i1 _ _ _ _ _ _ _ _ _ _ _ _ _ _
  | exact LeO.refl _
  | exact LeO.none _
  | refine LeO.ite ?_ ?_
  | refine LeO.bind ?_ (fun _ => ?_)
theorem entries_le (NF NG : Nat → List S46 → Int → Int → Int → Int → Option (ByteArray × List S46 × Bool × List S41 × Int × Int × Int × Int)) (h : ∀ k s a b c o, LeO (NF k s a b c o) (NG k s a b c o)) : ∀ k, (∀ y0 y1 y2 y3 y4 y5, LeO (parser_parser_entries.l0 NF k y0 y1 y2 y3 y4 y5) (parser_parser_entries.l0 NG k y0 y1 y2 y3 y4 y5)) ∧ (∀ y0 y1 y2 y3 y4 y5 y6 y7 y8 y9 y10, LeO (parser_parser_entries.j1 NF k y0 y1 y2 y3 y4 y5 y6 y7 y8 y9 y10) (parser_parser_entries.j1 NG k y0 y1 y2 y3 y4 y5 y6 y7 y8 y9 y10))
 | 0 => ⟨fun _ _ _ _ _ _ r h => by simp [parser_parser_entries.l0] at h, fun _ _ _ _ _ _ _ _ _ _ _ r h => by simp [parser_parser_entries.j1] at h⟩
 | k + 1 => by
  obtain ⟨i0, i1⟩ := entries_le NF NG h k
  refine ⟨?_, ?_⟩
  ·
   intro y0 y1 y2 y3 y4 y5
   simp only [parser_parser_entries.l0]
   repeat' first
    | exact h _ _ _ _ _ _
    | exact i0 _ _ _ _ _ _
    | exact i1 _ _ _ _ _ _ _ _ _ _ _
    | exact LeO.refl _
    | exact LeO.none _
    | refine LeO.ite ?_ ?_
    | refine LeO.bind ?_ (fun _ => ?_)
  ·
   intro y0 y1 y2 y3 y4 y5 y6 y7 y8 y9 y10
   simp only [parser_parser_entries.j1]
   repeat' first
    | exact h _ _ _ _ _ _
    | exact i0 _ _ _ _ _ _
    | exact i1 _ _ _ _ _ _ _ _ _ _ _
    | exact LeO.refl _
    | exact LeO.none _
    | refine LeO.ite ?_ ?_
    | refine LeO.bind ?_ (fun _ => ?_)
theorem entT_deep : ∀ (d k : Nat) (s : List S46) (a b c o : Int), LeO (entT d k s a b c o) (entT (d + 1) k s a b c o)
 | 0, k, s, a, b, c, o => fun r h => by cases h
 | d + 1, k, s, a, b, c, o => (entries_le _ _ (fun k s a b c o => entry_leF (entT d) (entT (d + 1)) (fun k s a b c o => entT_deep d k s a b c o) k s a b c o) k).1 _ _ _ _ _ _
theorem entT_mono : ∀ (d : Nat) (s : List S46) (a b c o : Int) (k : Nat), LeO (entT d k s a b c o) (entT d (k + 1) s a b c o)
 | 0, s, a, b, c, o, k => fun r h => by cases h
 | d + 1, s, a, b, c, o, k => parser_parser_entries.mono _ (fun s a b c o k => parser_parser_entry.mono (entT d) (fun s a b c o k => entT_mono d s a b c o k) s a b c o k) s a b c o k
/-- The parser's entries. -/
def parser_entries.f (k : Nat) (s : List S46) (a b c o : Int) : Option (List S41 × Int × Int × Int) := entT k k s a b c o
theorem parser_entries.mono : ∀ s a b c o k, LeO (parser_entries.f k s a b c o) (parser_entries.f (k + 1) s a b c o) := fun s a b c o k r h => entT_deep k (k + 1) s a b c o r (entT_mono k s a b c o k r h)
theorem parser_entries.calls (k : Nat) (g : Nat) (s0_0 : List (S46)) (s0_1 : Int) (s0_2 : Int) (s0_3 : Int) (a1 : Int) (r1 : List (S41)) (r2 : Int) (r3 : Int) (r4 : Int) (w0 w : World) (hI : IsS69 w0 w g s0_0 s0_1 s0_2 s0_3) (hB : Below w0.heap.size w0 w) (h : parser_entries.f k s0_0 s0_1 s0_2 s0_3 a1 = some (r1, r2, r3, r4)) :
  Calls Tryd.prog 52 #[.pointer (some ⟨g, 0, none⟩), .int .i64 a1] w fun e w' => ∃ v0_ : Value, e = .returned (v0_) ∧ Kd.R k41 41 w' w.heap.size (fun _ => True) v0_ r1 ∧ IsS69 w0 w' g s0_0 r2 r3 r4 ∧ Below w0.heap.size w0 w' ∧ KeepBut w w' g none := entT_calls k k g s0_0 s0_1 s0_2 s0_3 a1 r1 r2 r3 r4 w0 w hI hB h
end Go.Proofs.YtkifdadhojbohaaDoor.Pr
