/- Joined out of the texts of this proof that bear the names PrF34 PuHb: what each shows stands over it there. -/
import Derived.Test.YtkifdadhojbohaaDoorYb1
import Derived.Test.YtkifdadhojbohaaDoorYa1
set_option linter.unusedVariables false
set_option linter.unusedSimpArgs false
namespace Go.Proofs.YtkifdadhojbohaaDoor.Pr
open Go.Proofs.YtkifdadhojbohaaDoor
open Go.RowKit Go.Proofs.YtkifdadhojbohaaDoorW.PrintWords Go.Proofs.YtkifdadhojbohaaDoorW.PrintLast Go.Proofs.YtkifdadhojbohaaDoorW.PrintMore
attribute [local go_sem] max2_int min2_int max_two min_two max_three min_three max_four min_four   -- for this text's walks alone
set_option linter.unusedVariables false
set_option linter.unusedSimpArgs false
attribute [local go_sem high] eqA46
/-! ### salchowref09_Same: function 34 -/
mutual
def salchowref09_Same.l0 : Nat → List (S46) → List (S46) → Bool → Int → Option (Bool)
  | 0, _, _, _, _ => none
  | k + 1, x0, x1, x2, x7 => if x7 < (x0.length : Int) then (if 0 ≤ x7 then (if x7 < (x1.length : Int) then (if x2 = true then (salchowref09_Same.j1 k x0 x1 x2 x7 ((rd_T46 x0 x7).f0) ((rd_T46 x0 x7).f1) ((rd_T46 x0 x7).f2) ((rd_T46 x0 x7).f3) ((rd_T46 x1 x7).f0) ((rd_T46 x1 x7).f1) ((rd_T46 x1 x7).f2) ((rd_T46 x1 x7).f3)) else (salchowref09_Same.j1 k x0 x1 x2 x7 ((rd_T46 x0 x7).f0) ((rd_T46 x0 x7).f1) ((rd_T46 x0 x7).f2) 0 ((rd_T46 x1 x7).f0) ((rd_T46 x1 x7).f1) ((rd_T46 x1 x7).f2) 0)) else (none)) else (none)) else (some true)
def salchowref09_Same.j1 : Nat → List (S46) → List (S46) → Bool → Int → Int → ByteArray → Int → Int → Int → ByteArray → Int → Int → Option (Bool)
  | 0, _, _, _, _, _, _, _, _, _, _, _, _ => none
  | k + 1, x0, x1, x2, x7, x395000, x395001, x395002, x395003, x396000, x396001, x396002, x396003 => if (!(x395000 == x396000) || (!(x395001.toList == x396001.toList) || (!(x395002 == x396002) || (!(x395003 == x396003))))) = true then (some false) else (salchowref09_Same.l0 k x0 x1 x2 (wrap64 (x7 + 1)))
end
def salchowref09_Same.f (k : Nat) (l0 : List (S46)) (l1 : List (S46)) (a2 : Bool) : Option (Bool) := if (l0.length : Int) = (l1.length : Int) then (salchowref09_Same.l0 k l0 l1 a2 0) else (some false)
theorem salchowref09_Same.mono_l : ∀ k, (∀ y0 y1 y2 y3, LeO (salchowref09_Same.l0 k y0 y1 y2 y3) (salchowref09_Same.l0 (k + 1) y0 y1 y2 y3)) ∧ (∀ y0 y1 y2 y3 y4 y5 y6 y7 y8 y9 y10 y11, LeO (salchowref09_Same.j1 k y0 y1 y2 y3 y4 y5 y6 y7 y8 y9 y10 y11) (salchowref09_Same.j1 (k + 1) y0 y1 y2 y3 y4 y5 y6 y7 y8 y9 y10 y11))
  | 0 => ⟨fun _ _ _ _ r h => by simp [salchowref09_Same.l0] at h, fun _ _ _ _ _ _ _ _ _ _ _ _ r h => by simp [salchowref09_Same.j1] at h⟩
  | k + 1 => by
    obtain ⟨ih0, ih1⟩ := salchowref09_Same.mono_l k
    refine ⟨?_, ?_⟩
    · intro y0 y1 y2 y3
      unfold salchowref09_Same.l0
      repeat' first
      | (with_reducible exact ih0 _ _ _ _)
      | (with_reducible exact ih1 _ _ _ _ _ _ _ _ _ _ _ _)
      | (with_reducible exact LeO.refl _)
      | (with_reducible exact LeO.none _)
      | (with_reducible refine LeO.ite ?_ ?_)
      | (with_reducible refine LeO.bind ?_ (fun _ => ?_))
      | exact ih0 _ _ _ _
      | exact ih1 _ _ _ _ _ _ _ _ _ _ _ _
      | exact LeO.none _
      | refine LeO.ite ?_ ?_
      | refine LeO.bind ?_ (fun _ => ?_)
    · intro y0 y1 y2 y3 y4 y5 y6 y7 y8 y9 y10 y11
      unfold salchowref09_Same.j1
      repeat' first
      | (with_reducible exact ih0 _ _ _ _)
      | (with_reducible exact ih1 _ _ _ _ _ _ _ _ _ _ _ _)
      | (with_reducible exact LeO.refl _)
      | (with_reducible exact LeO.none _)
      | (with_reducible refine LeO.ite ?_ ?_)
      | (with_reducible refine LeO.bind ?_ (fun _ => ?_))
      | exact ih0 _ _ _ _
      | exact ih1 _ _ _ _ _ _ _ _ _ _ _ _
      | exact LeO.none _
      | refine LeO.ite ?_ ?_
      | refine LeO.bind ?_ (fun _ => ?_)
theorem salchowref09_Same.mono : ∀ a0 a1 a2 k, LeO (salchowref09_Same.f k a0 a1 a2) (salchowref09_Same.f (k + 1) a0 a1 a2) := by
  intro a0 a1 a2 k
  obtain ⟨ih0, ih1⟩ := salchowref09_Same.mono_l k
  unfold salchowref09_Same.f
  repeat' first
      | (with_reducible exact ih0 _ _ _ _)
      | (with_reducible exact ih1 _ _ _ _ _ _ _ _ _ _ _ _)
      | (with_reducible exact LeO.refl _)
      | (with_reducible exact LeO.none _)
      | (with_reducible refine LeO.ite ?_ ?_)
      | (with_reducible refine LeO.bind ?_ (fun _ => ?_))
      | exact ih0 _ _ _ _
      | exact ih1 _ _ _ _ _ _ _ _ _ _ _ _
      | exact LeO.none _
      | refine LeO.ite ?_ ?_
      | refine LeO.bind ?_ (fun _ => ?_)
def salchowref09_Same.T6 : Bool × List (List Nat × List Nat) := (true, [([], []), ([], []), ([0, 1], [0, 1]), ([2], [2]), ([], []), ([], []), ([4, 5], [4, 5]), ([6], [6]), ([], []), ([], []), ([8, 3, 0, 1, 2, 3, 8, 9], [3, 8]), ([9, 7, 10, 0, 1, 2, 3, 4, 5, 6, 7, 8, 9, 10], [7, 9])])
def salchowref09_Same.B6 : List Nat := [0, 0, 3, 7, 0, 0, 48, 112, 0, 0, 783, 2047]
theorem salchowref09_Same.tab6 : rtab .any (opsOf Tryd.f34 6) = salchowref09_Same.T6 := by kernel_rfl
theorem salchowref09_Same.bits6 : waitsOk salchowref09_Same.T6.2 salchowref09_Same.B6 = true := by kernel_rfl
set_option maxHeartbeats 8000000 in
set_option maxRecDepth 100000 in
theorem salchowref09_Same.calls (k : Nat) (A0 : Option Addr) (c0 : Nat) (l0 : List (S46)) (A1 : Option Addr) (c1 : Nat) (l1 : List (S46)) (a2 : Bool) (r : Bool) (w : World) (hr0 : Kd.C k46 w A0 l0.length l0) (hc0 : l0.length ≤ c0) (hr1 : Kd.C k46 w A1 l1.length l1) (hc1 : l1.length ≤ c1) (h : salchowref09_Same.f k l0 l1 a2 = some r) :
    Calls Tryd.prog 34 #[.slice A0 l0.length c0, .slice A1 l1.length c1, .bool a2] w fun e w' => e = .returned (.bool r) ∧ Below w.heap.size w w' := by
  have hu46 := Tryd.underlying46
  have HR0 := Aside0.mk hr0
  have HC0 := Aside0.mk hc0
  clear hr0 hc0
  have HR1 := Aside0.mk hr1
  have HC1 := Aside0.mk hc1
  clear hr1 hc1
  have HB := Aside0.mk (Below.refl w.heap.size w)
  have H : (if (l0.length : Int) = (l1.length : Int) then (salchowref09_Same.l0 k l0 l1 a2 0) else (some false)) = some r := h
  clear h
  by_cases c4 : (l0.length : Int) = (l1.length : Int)
  · rw [if_pos c4] at H
    have c4b0 : ((l0.length : Int) == (l1.length : Int)) = true := beq_iff_eq.mpr c4
    have c4b1 : ((l0.length : Int) != (l1.length : Int)) = false := bne_eq_false_iff_eq.mpr c4
    have c4b2 : (l0.length == l1.length) = true := by first | simpa using c4 | (simp at c4 ⊢; omega)
    clear c4
    have H' := Aside0.mk H
    clear H
    go_enter Tryd.func34, Tryd.ntmps34
    go_wp2
    go_loopg [7] k (fun kq v7 w' => ∃ (x7_1 : Int), v7 = .int .i64 x7_1 ∧ Aside0 (salchowref09_Same.l0 kq l0 l1 a2 x7_1 = some r) ∧ Aside0 (kq ≤ k) ∧ Aside0 (Below w.heap.size w w'))
    case atStart => exact ⟨(0), (by first | rfl | (simp; done) | (simp [*]; done) | (simp <;> rfl)), H', ⟨Nat.le_refl _⟩, ⟨bl_ HB.out⟩⟩
    case round =>
      clear H'
      try clear c1
      try clear p2
      try clear c3
      try clear c4
      try clear c4b0
      try clear c4b1
      try clear c4b2
      obtain ⟨x7_1, rfl, HA, HK1, HB⟩ := hrel
      cases gk with
      | zero => exact absurd HA.out (by simp [salchowref09_Same.l0])
      | succ k1 =>
        have H := HA.out
        clear HA
        simp only [salchowref09_Same.l0] at H
        by_cases c5 : x7_1 < (l0.length : Int)
        · rw [if_pos c5] at H
          have c5b0 : decide (x7_1 < (l0.length : Int)) = true := decide_eq_true c5
          clear c5
          by_cases c6 : 0 ≤ x7_1
          · rw [if_pos c6] at H
            have c6b0 : decide (0 ≤ x7_1) = true := decide_eq_true c6
            clear c6
            by_cases c7 : x7_1 < (l1.length : Int)
            · rw [if_pos c7] at H
              have c7b0 : decide (x7_1 < (l1.length : Int)) = true := decide_eq_true c7
              clear c7
              have HC8 := Aside0.mk H
              clear H
              try go_wp2
              have n0_ := Aside0.mk (below_drew1 HB.out)
              clear HB
              have HB := n0_
              clear n0_
              have p392 : 0 ≤ (x7_1 : Int) := of_decide_eq_true (by first | (with_reducible assumption) | assumption)
              have q392 : x7_1 < (l0.length : Int) := of_decide_eq_true (by first | (with_reducible assumption) | assumption)
              obtain ⟨ad392, e392, hx392_0, hx392_1, hx392_2, hx392_3⟩ := at_T46 HR0.out x7_1 p392 q392
              have hw392_3 := hx392_3
              have hw392_2 := hx392_2
              have hw392_1 := hx392_1
              have hw392_0 := hx392_0
              cases e392
              replace hx392_0 := (HB.out.cell (World.block_lt_of_cell? w _ hx392_0)).trans hx392_0
              replace hx392_1 := (HB.out.cell (World.block_lt_of_cell? w _ hx392_1)).trans hx392_1
              replace hx392_2 := (HB.out.cell (World.block_lt_of_cell? w _ hx392_2)).trans hx392_2
              replace hx392_3 := (HB.out.cell (World.block_lt_of_cell? w _ hx392_3)).trans hx392_3
              replace p392 := eq_true p392
              replace q392 := eq_true q392
              have p393 : 0 ≤ (x7_1 : Int) := of_decide_eq_true (by first | (with_reducible assumption) | assumption)
              have q393 : x7_1 < (l1.length : Int) := of_decide_eq_true (by first | (with_reducible assumption) | assumption)
              obtain ⟨ad393, e393, hx393_0, hx393_1, hx393_2, hx393_3⟩ := at_T46 HR1.out x7_1 p393 q393
              have hw393_3 := hx393_3
              have hw393_2 := hx393_2
              have hw393_1 := hx393_1
              have hw393_0 := hx393_0
              cases e393
              replace hx393_0 := (HB.out.cell (World.block_lt_of_cell? w _ hx393_0)).trans hx393_0
              replace hx393_1 := (HB.out.cell (World.block_lt_of_cell? w _ hx393_1)).trans hx393_1
              replace hx393_2 := (HB.out.cell (World.block_lt_of_cell? w _ hx393_2)).trans hx393_2
              replace hx393_3 := (HB.out.cell (World.block_lt_of_cell? w _ hx393_3)).trans hx393_3
              replace p393 := eq_true p393
              replace q393 := eq_true q393
              refine start_ (n := 12) (S := fun w' => w'.cell? (ad392.add ((x7_1).toNat * 4)) = some (.int .i64 ((rd_T46 l0 x7_1).f0)) ∧ w'.cell? ⟨(ad392.add ((x7_1).toNat * 4)).block, (ad392.add ((x7_1).toNat * 4)).off + 1, none⟩ = some (.string ((rd_T46 l0 x7_1).f1)) ∧ w'.cell? ⟨(ad392.add ((x7_1).toNat * 4)).block, (ad392.add ((x7_1).toNat * 4)).off + 2, none⟩ = some (.int .i64 ((rd_T46 l0 x7_1).f2)) ∧ w'.cell? ⟨(ad392.add ((x7_1).toNat * 4)).block, (ad392.add ((x7_1).toNat * 4)).off + 3, none⟩ = some (.int .i64 ((rd_T46 l0 x7_1).f3)) ∧ w'.cell? (ad393.add ((x7_1).toNat * 4)) = some (.int .i64 ((rd_T46 l1 x7_1).f0)) ∧ w'.cell? ⟨(ad393.add ((x7_1).toNat * 4)).block, (ad393.add ((x7_1).toNat * 4)).off + 1, none⟩ = some (.string ((rd_T46 l1 x7_1).f1)) ∧ w'.cell? ⟨(ad393.add ((x7_1).toNat * 4)).block, (ad393.add ((x7_1).toNat * 4)).off + 2, none⟩ = some (.int .i64 ((rd_T46 l1 x7_1).f2)) ∧ w'.cell? ⟨(ad393.add ((x7_1).toNat * 4)).block, (ad393.add ((x7_1).toNat * 4)).off + 3, none⟩ = some (.int .i64 ((rd_T46 l1 x7_1).f3))) (ds := []) #[false, false, false, false, false, false, false, false, false, false, false, false] (by kernel_rfl) rfl rfl ⟨((HB.out.cell (World.block_lt_of_cell? w _ hw392_0)).trans hw392_0), ((HB.out.cell (World.block_lt_of_cell? w _ hw392_1)).trans hw392_1), ((HB.out.cell (World.block_lt_of_cell? w _ hw392_2)).trans hw392_2), ((HB.out.cell (World.block_lt_of_cell? w _ hw392_3)).trans hw392_3), ((HB.out.cell (World.block_lt_of_cell? w _ hw393_0)).trans hw393_0), ((HB.out.cell (World.block_lt_of_cell? w _ hw393_1)).trans hw393_1), ((HB.out.cell (World.block_lt_of_cell? w _ hw393_2)).trans hw393_2), ((HB.out.cell (World.block_lt_of_cell? w _ hw393_3)).trans hw393_3)⟩ (fun hHeld => ?_); refine with_tabW salchowref09_Same.tab6 salchowref09_Same.bits6 (fun HT_ HW_ => ?_)
              generalize wr.drew = w9 at HB hx392_0 hx392_1 hx392_2 hx392_3 hx393_0 hx393_1 hx393_2 hx393_3 hHeld ⊢
              refine pure_ (i := 0) (N := some 21) (v := ?_) (a' := ?_) #[true, false, false, false, false, false, false, false, false, false, false, false] rfl rfl (any_of HT_.out (by kernel_rfl)) (fun _ _ _ h => h) (Or.inl ⟨by rfl, ?_⟩) ?_ ?_
              rotate_left
              · intro w'
                go_simp
                with_reducible rfl
              rotate_left
              · simp only [Act.put, List.setIfInBounds_toArray, List.set_cons_zero, List.set_cons_succ, i64_w, i32_w]
                rfl
              refine pure_ (i := 1) (N := some 22) (v := ?_) (a' := ?_) #[true, true, false, false, false, false, false, false, false, false, false, false] rfl rfl (any_of HT_.out (by kernel_rfl)) (fun _ _ _ h => h) (Or.inl ⟨by rfl, ?_⟩) ?_ ?_
              rotate_left
              · intro w'
                go_simp
                with_reducible rfl
              rotate_left
              · simp only [Act.put, List.setIfInBounds_toArray, List.set_cons_zero, List.set_cons_succ, i64_w, i32_w]
                rfl
              refine pure_ (i := 2) (N := some 23) (v := ?_) (a' := ?_) #[true, true, true, false, false, false, false, false, false, false, false, false] rfl rfl (any_of HT_.out (by kernel_rfl)) (fun _ _ _ h => h) (Or.inl ⟨by rfl, ?_⟩) ?_ ?_
              rotate_left
              · intro w'
                go_simp
                with_reducible rfl
              rotate_left
              · simp only [Act.put, List.setIfInBounds_toArray, List.set_cons_zero, List.set_cons_succ, i64_w, i32_w]
                rfl
              refine pure_ (i := 4) (N := some 25) (v := ?_) (a' := ?_) #[true, true, true, false, true, false, false, false, false, false, false, false] rfl rfl (any_of HT_.out (by kernel_rfl)) (fun _ _ _ h => h) (Or.inl ⟨by rfl, ?_⟩) ?_ ?_
              rotate_left
              · intro w'
                go_simp
                with_reducible rfl
              rotate_left
              · simp only [Act.put, List.setIfInBounds_toArray, List.set_cons_zero, List.set_cons_succ, i64_w, i32_w]
                rfl
              refine pure_ (i := 5) (N := some 26) (v := ?_) (a' := ?_) #[true, true, true, false, true, true, false, false, false, false, false, false] rfl rfl (any_of HT_.out (by kernel_rfl)) (fun _ _ _ h => h) (Or.inl ⟨by rfl, ?_⟩) ?_ ?_
              rotate_left
              · intro w'
                go_simp
                with_reducible rfl
              rotate_left
              · simp only [Act.put, List.setIfInBounds_toArray, List.set_cons_zero, List.set_cons_succ, i64_w, i32_w]
                rfl
              refine pure_ (i := 6) (N := some 27) (v := ?_) (a' := ?_) #[true, true, true, false, true, true, true, false, false, false, false, false] rfl rfl (any_of HT_.out (by kernel_rfl)) (fun _ _ _ h => h) (Or.inl ⟨by rfl, ?_⟩) ?_ ?_
              rotate_left
              · intro w'
                go_simp
                with_reducible rfl
              rotate_left
              · simp only [Act.put, List.setIfInBounds_toArray, List.set_cons_zero, List.set_cons_succ, i64_w, i32_w]
                rfl
              refine take_ (i := 3) (N := some 24) (v := ?_) (a' := ?_) #[true, true, true, true, true, true, true, false, false, false, false, false] rfl rfl (take_ofW HT_.out HW_.out (by kernel_rfl)) (fun _ _ _ h => h) (Or.inl ⟨by rfl, ?_⟩) hHeld ?_ ?_
              rotate_left
              · rintro w' ⟨s0, s1, s2, s3, s4, s5, s6, s7⟩
                go_simp
                with_reducible rfl
              rotate_left
              · simp only [Act.put, List.setIfInBounds_toArray, List.set_cons_zero, List.set_cons_succ, i64_w, i32_w]
                rfl
              refine take_ (i := 7) (N := some 28) (v := ?_) (a' := ?_) #[true, true, true, true, true, true, true, true, false, false, false, false] rfl rfl (take_ofW HT_.out HW_.out (by kernel_rfl)) (fun _ _ _ h => h) (Or.inl ⟨by rfl, ?_⟩) hHeld ?_ ?_
              rotate_left
              · rintro w' ⟨s0, s1, s2, s3, s4, s5, s6, s7⟩
                go_simp
                with_reducible rfl
              rotate_left
              · simp only [Act.put, List.setIfInBounds_toArray, List.set_cons_zero, List.set_cons_succ, i64_w, i32_w]
                rfl
              refine join_ (σ := Nat × Nat) 2 #[true, true, true, true, true, true, true, true, true, true, false, false] (fun s_ => [(8, .pointer (some ⟨s_.1, 0, none⟩)), (9, .pointer (some ⟨s_.2, 0, none⟩))]) (fun s_ w' => (w'.cell? (ad392.add ((x7_1).toNat * 4)) = some (.int .i64 ((rd_T46 l0 x7_1).f0)) ∧ w'.cell? ⟨(ad392.add ((x7_1).toNat * 4)).block, (ad392.add ((x7_1).toNat * 4)).off + 1, none⟩ = some (.string ((rd_T46 l0 x7_1).f1)) ∧ w'.cell? ⟨(ad392.add ((x7_1).toNat * 4)).block, (ad392.add ((x7_1).toNat * 4)).off + 2, none⟩ = some (.int .i64 ((rd_T46 l0 x7_1).f2)) ∧ w'.cell? ⟨(ad392.add ((x7_1).toNat * 4)).block, (ad392.add ((x7_1).toNat * 4)).off + 3, none⟩ = some (.int .i64 ((rd_T46 l0 x7_1).f3)) ∧ w'.cell? (ad393.add ((x7_1).toNat * 4)) = some (.int .i64 ((rd_T46 l1 x7_1).f0)) ∧ w'.cell? ⟨(ad393.add ((x7_1).toNat * 4)).block, (ad393.add ((x7_1).toNat * 4)).off + 1, none⟩ = some (.string ((rd_T46 l1 x7_1).f1)) ∧ w'.cell? ⟨(ad393.add ((x7_1).toNat * 4)).block, (ad393.add ((x7_1).toNat * 4)).off + 2, none⟩ = some (.int .i64 ((rd_T46 l1 x7_1).f2)) ∧ w'.cell? ⟨(ad393.add ((x7_1).toNat * 4)).block, (ad393.add ((x7_1).toNat * 4)).off + 3, none⟩ = some (.int .i64 ((rd_T46 l1 x7_1).f3))) ∧ (w'.heap[s_.1]? = some (.cells #[.int .i64 0, .string (⟨#[]⟩ : ByteArray), .int .i64 0, .int .i64 0] 46 (0, 0))) ∧ (w'.heap[s_.2]? = some (.cells #[.int .i64 0, .string (⟨#[]⟩ : ByteArray), .int .i64 0, .int .i64 0] 46 (0, 0))) ∧ (w.heap.size ≤ s_.1) ∧ (w.heap.size ≤ s_.1) ∧ (s_.2 ≠ s_.1) ∧ (s_.1 ≠ s_.2) ∧ (w.heap.size ≤ s_.2) ∧ (w.heap.size ≤ s_.2) ∧ (Below w.heap.size w w')) ?_ ?_
              rotate_left
              · intro hCont
                refine two_ (i := 8) (j := 9) (Ni := some 8) (Nj := some 9) #[true, true, true, true, true, true, true, true, true, false, false, false] #[true, true, true, true, true, true, true, true, false, true, false, false] rfl rfl rfl rfl (two_of HT_.out (by kernel_rfl)) (by decide) (by decide) (fun K hK => ?_) (fun K hK => ?_)
                · skip
                  refine box_step ?hg (N := 8) ?hd (cs := #[.int .i64 0, .string (⟨#[]⟩ : ByteArray), .int .i64 0, .int .i64 0]) (t := 46) ?hr ?_; (case hd => rfl); (case hg => rfl); (case hr => first | (go_simp; done) | (go_simp; rfl))
                  intro gb394 hg w10 hbox hb
                  have n0_ := Aside0.mk (below_step (bl_ HB.out) hb)
                  have n1_ := Aside0.mk (hbox)
                  have n2_ := Aside0.mk ((by rw [hg]; exact (below_size (bl_ HB.out)) : w.heap.size ≤ gb394))
                  have n3_ := Aside0.mk ((by rw [hg]; exact (below_size (bl_ HB.out)) : w.heap.size ≤ gb394))
                  clear HB
                  have HB := n0_
                  have BK394 := n1_
                  have GW394 := n2_
                  have GE394 := n3_
                  clear n0_ n1_ n2_ n3_
                  clear hb hbox hg
                  refine hK.out _ _ ⟨((HB.out.cell (World.block_lt_of_cell? w _ hw392_0)).trans hw392_0), ((HB.out.cell (World.block_lt_of_cell? w _ hw392_1)).trans hw392_1), ((HB.out.cell (World.block_lt_of_cell? w _ hw392_2)).trans hw392_2), ((HB.out.cell (World.block_lt_of_cell? w _ hw392_3)).trans hw392_3), ((HB.out.cell (World.block_lt_of_cell? w _ hw393_0)).trans hw393_0), ((HB.out.cell (World.block_lt_of_cell? w _ hw393_1)).trans hw393_1), ((HB.out.cell (World.block_lt_of_cell? w _ hw393_2)).trans hw393_2), ((HB.out.cell (World.block_lt_of_cell? w _ hw393_3)).trans hw393_3)⟩ (fun hHeld => ?_)
                  clear hK K
                  refine norm_ (a' := ?_) ?_ ?_
                  rotate_left
                  · show Act.put _ (some 8) _ = _
                    simp only [Act.put, List.setIfInBounds_toArray, List.set_cons_zero, List.set_cons_succ, i64_w, i32_w]
                    rfl
                  refine one_ (i := 9) (N := some 9) #[true, true, true, true, true, true, true, true, true, true, false, false] rfl rfl (one_of HT_.out (by kernel_rfl)) (by decide) (fun K hK => ?_)
                  refine box_step ?hg (N := 9) ?hd (cs := #[.int .i64 0, .string (⟨#[]⟩ : ByteArray), .int .i64 0, .int .i64 0]) (t := 46) ?hr ?_; (case hd => rfl); (case hg => rfl); (case hr => first | (go_simp; done) | (go_simp; rfl))
                  intro gb395 hg w11 hbox hb
                  have n0_ := Aside0.mk (blk_below (g := gb394) (o := .cells #[.int .i64 0, .string (⟨#[]⟩ : ByteArray), .int .i64 0, .int .i64 0] 46 (0, 0)) (bk_ BK394.out) hb)
                  have n1_ := Aside0.mk (below_step (bl1_ HB.out GE394.out) hb)
                  have n2_ := Aside0.mk (hbox)
                  have n3_ := Aside0.mk ((by rw [hg]; exact (below_size (bl1_ HB.out GE394.out)) : w.heap.size ≤ gb395))
                  have n4_ := Aside0.mk ((by rw [hg]; exact (below_size (bl1_ HB.out GE394.out)) : w.heap.size ≤ gb395))
                  have n5_ := Aside0.mk ((by rw [hg]; exact Nat.ne_of_lt (blk_lt (g := gb394) (o := .cells #[.int .i64 0, .string (⟨#[]⟩ : ByteArray), .int .i64 0, .int .i64 0] 46 (0, 0)) (bk_ BK394.out)) : gb394 ≠ gb395))
                  have n6_ := Aside0.mk ((by rw [hg]; exact Nat.ne_of_gt (blk_lt (g := gb394) (o := .cells #[.int .i64 0, .string (⟨#[]⟩ : ByteArray), .int .i64 0, .int .i64 0] 46 (0, 0)) (bk_ BK394.out)) : gb395 ≠ gb394))
                  clear BK394
                  clear HB
                  have BK394 := n0_
                  have HB := n1_
                  have BK395 := n2_
                  have GW395 := n3_
                  have GE395 := n4_
                  have NB394_395 := n5_
                  have NB395_394 := n6_
                  clear n0_ n1_ n2_ n3_ n4_ n5_ n6_
                  clear hb hbox hg
                  refine hK.out _ _ ⟨((HB.out.cell (World.block_lt_of_cell? w _ hw392_0)).trans hw392_0), ((HB.out.cell (World.block_lt_of_cell? w _ hw392_1)).trans hw392_1), ((HB.out.cell (World.block_lt_of_cell? w _ hw392_2)).trans hw392_2), ((HB.out.cell (World.block_lt_of_cell? w _ hw392_3)).trans hw392_3), ((HB.out.cell (World.block_lt_of_cell? w _ hw393_0)).trans hw393_0), ((HB.out.cell (World.block_lt_of_cell? w _ hw393_1)).trans hw393_1), ((HB.out.cell (World.block_lt_of_cell? w _ hw393_2)).trans hw393_2), ((HB.out.cell (World.block_lt_of_cell? w _ hw393_3)).trans hw393_3)⟩ (fun hHeld => ?_)
                  clear hK K
                  refine norm_ (a' := ?_) ?_ ?_
                  rotate_left
                  · show Act.put _ (some 9) _ = _
                    simp only [Act.put, List.setIfInBounds_toArray, List.set_cons_zero, List.set_cons_succ, i64_w, i32_w]
                    rfl
                  exact norm_ (by simp only [putAll, Act.put, List.setIfInBounds_toArray, List.set_cons_zero, List.set_cons_succ]) (hCont (gb394, gb395) _ ⟨hHeld, (bk_ BK394.out), (bk_ BK395.out), GW394.out, GE394.out, NB395_394.out, NB394_395.out, GW395.out, GE395.out, (bl2_ HB.out GE394.out GE395.out)⟩)
                · skip
                  refine box_step ?hg (N := 9) ?hd (cs := #[.int .i64 0, .string (⟨#[]⟩ : ByteArray), .int .i64 0, .int .i64 0]) (t := 46) ?hr ?_; (case hd => rfl); (case hg => rfl); (case hr => first | (go_simp; done) | (go_simp; rfl))
                  intro gb395 hg w10 hbox hb
                  have n0_ := Aside0.mk (below_step (bl_ HB.out) hb)
                  have n1_ := Aside0.mk (hbox)
                  have n2_ := Aside0.mk ((by rw [hg]; exact (below_size (bl_ HB.out)) : w.heap.size ≤ gb395))
                  have n3_ := Aside0.mk ((by rw [hg]; exact (below_size (bl_ HB.out)) : w.heap.size ≤ gb395))
                  clear HB
                  have HB := n0_
                  have BK395 := n1_
                  have GW395 := n2_
                  have GE395 := n3_
                  clear n0_ n1_ n2_ n3_
                  clear hb hbox hg
                  refine hK.out _ _ ⟨((HB.out.cell (World.block_lt_of_cell? w _ hw392_0)).trans hw392_0), ((HB.out.cell (World.block_lt_of_cell? w _ hw392_1)).trans hw392_1), ((HB.out.cell (World.block_lt_of_cell? w _ hw392_2)).trans hw392_2), ((HB.out.cell (World.block_lt_of_cell? w _ hw392_3)).trans hw392_3), ((HB.out.cell (World.block_lt_of_cell? w _ hw393_0)).trans hw393_0), ((HB.out.cell (World.block_lt_of_cell? w _ hw393_1)).trans hw393_1), ((HB.out.cell (World.block_lt_of_cell? w _ hw393_2)).trans hw393_2), ((HB.out.cell (World.block_lt_of_cell? w _ hw393_3)).trans hw393_3)⟩ (fun hHeld => ?_)
                  clear hK K
                  refine norm_ (a' := ?_) ?_ ?_
                  rotate_left
                  · show Act.put _ (some 9) _ = _
                    simp only [Act.put, List.setIfInBounds_toArray, List.set_cons_zero, List.set_cons_succ, i64_w, i32_w]
                    rfl
                  refine one_ (i := 8) (N := some 8) #[true, true, true, true, true, true, true, true, true, true, false, false] rfl rfl (one_of HT_.out (by kernel_rfl)) (by decide) (fun K hK => ?_)
                  refine box_step ?hg (N := 8) ?hd (cs := #[.int .i64 0, .string (⟨#[]⟩ : ByteArray), .int .i64 0, .int .i64 0]) (t := 46) ?hr ?_; (case hd => rfl); (case hg => rfl); (case hr => first | (go_simp; done) | (go_simp; rfl))
                  intro gb394 hg w11 hbox hb
                  have n0_ := Aside0.mk (blk_below (g := gb395) (o := .cells #[.int .i64 0, .string (⟨#[]⟩ : ByteArray), .int .i64 0, .int .i64 0] 46 (0, 0)) (bk_ BK395.out) hb)
                  have n1_ := Aside0.mk (below_step (bl1_ HB.out GE395.out) hb)
                  have n2_ := Aside0.mk (hbox)
                  have n3_ := Aside0.mk ((by rw [hg]; exact (below_size (bl1_ HB.out GE395.out)) : w.heap.size ≤ gb394))
                  have n4_ := Aside0.mk ((by rw [hg]; exact (below_size (bl1_ HB.out GE395.out)) : w.heap.size ≤ gb394))
                  have n5_ := Aside0.mk ((by rw [hg]; exact Nat.ne_of_lt (blk_lt (g := gb395) (o := .cells #[.int .i64 0, .string (⟨#[]⟩ : ByteArray), .int .i64 0, .int .i64 0] 46 (0, 0)) (bk_ BK395.out)) : gb395 ≠ gb394))
                  have n6_ := Aside0.mk ((by rw [hg]; exact Nat.ne_of_gt (blk_lt (g := gb395) (o := .cells #[.int .i64 0, .string (⟨#[]⟩ : ByteArray), .int .i64 0, .int .i64 0] 46 (0, 0)) (bk_ BK395.out)) : gb394 ≠ gb395))
                  clear BK395
                  clear HB
                  have BK395 := n0_
                  have HB := n1_
                  have BK394 := n2_
                  have GW394 := n3_
                  have GE394 := n4_
                  have NB395_394 := n5_
                  have NB394_395 := n6_
                  clear n0_ n1_ n2_ n3_ n4_ n5_ n6_
                  clear hb hbox hg
                  refine hK.out _ _ ⟨((HB.out.cell (World.block_lt_of_cell? w _ hw392_0)).trans hw392_0), ((HB.out.cell (World.block_lt_of_cell? w _ hw392_1)).trans hw392_1), ((HB.out.cell (World.block_lt_of_cell? w _ hw392_2)).trans hw392_2), ((HB.out.cell (World.block_lt_of_cell? w _ hw392_3)).trans hw392_3), ((HB.out.cell (World.block_lt_of_cell? w _ hw393_0)).trans hw393_0), ((HB.out.cell (World.block_lt_of_cell? w _ hw393_1)).trans hw393_1), ((HB.out.cell (World.block_lt_of_cell? w _ hw393_2)).trans hw393_2), ((HB.out.cell (World.block_lt_of_cell? w _ hw393_3)).trans hw393_3)⟩ (fun hHeld => ?_)
                  clear hK K
                  refine norm_ (a' := ?_) ?_ ?_
                  rotate_left
                  · show Act.put _ (some 8) _ = _
                    simp only [Act.put, List.setIfInBounds_toArray, List.set_cons_zero, List.set_cons_succ, i64_w, i32_w]
                    rfl
                  exact norm_ (by simp only [putAll, Act.put, List.setIfInBounds_toArray, List.set_cons_zero, List.set_cons_succ]) (hCont (gb394, gb395) _ ⟨hHeld, (bk_ BK394.out), (bk_ BK395.out), GW394.out, GE394.out, NB395_394.out, NB394_395.out, GW395.out, GE395.out, (bl2_ HB.out GE395.out GE394.out)⟩)
              rintro ⟨gb394, gb395⟩ w12 ⟨hS_, h0_, h1_, h2_, h3_, h4_, h5_, h6_, h7_, h8_⟩
              have n0_ : Aside0 (w12.heap[gb394]? = some (.cells #[.int .i64 0, .string (⟨#[]⟩ : ByteArray), .int .i64 0, .int .i64 0] 46 (0, 0))) := ⟨h0_⟩
              have n1_ : Aside0 (w12.heap[gb395]? = some (.cells #[.int .i64 0, .string (⟨#[]⟩ : ByteArray), .int .i64 0, .int .i64 0] 46 (0, 0))) := ⟨h1_⟩
              have n2_ : Aside0 (w.heap.size ≤ gb394) := ⟨h2_⟩
              have n3_ : Aside0 (w.heap.size ≤ gb394) := ⟨h3_⟩
              have n4_ : Aside0 (gb395 ≠ gb394) := ⟨h4_⟩
              have n5_ : Aside0 (gb394 ≠ gb395) := ⟨h5_⟩
              have n6_ : Aside0 (w.heap.size ≤ gb395) := ⟨h6_⟩
              have n7_ : Aside0 (w.heap.size ≤ gb395) := ⟨h7_⟩
              have n8_ : Aside0 (Below w.heap.size w w12) := ⟨h8_⟩
              clear HB
              clear h0_ h1_ h2_ h3_ h4_ h5_ h6_ h7_ h8_
              have BK394 := n0_
              have BK395 := n1_
              have GW394 := n2_
              have GE394 := n3_
              have NB395_394 := n4_
              have NB394_395 := n5_
              have GW395 := n6_
              have GE395 := n7_
              have HB := n8_
              clear n0_ n1_ n2_ n3_ n4_ n5_ n6_ n7_ n8_
              have hHeld : w12.cell? (ad392.add ((x7_1).toNat * 4)) = some (.int .i64 ((rd_T46 l0 x7_1).f0)) ∧ w12.cell? ⟨(ad392.add ((x7_1).toNat * 4)).block, (ad392.add ((x7_1).toNat * 4)).off + 1, none⟩ = some (.string ((rd_T46 l0 x7_1).f1)) ∧ w12.cell? ⟨(ad392.add ((x7_1).toNat * 4)).block, (ad392.add ((x7_1).toNat * 4)).off + 2, none⟩ = some (.int .i64 ((rd_T46 l0 x7_1).f2)) ∧ w12.cell? ⟨(ad392.add ((x7_1).toNat * 4)).block, (ad392.add ((x7_1).toNat * 4)).off + 3, none⟩ = some (.int .i64 ((rd_T46 l0 x7_1).f3)) ∧ w12.cell? (ad393.add ((x7_1).toNat * 4)) = some (.int .i64 ((rd_T46 l1 x7_1).f0)) ∧ w12.cell? ⟨(ad393.add ((x7_1).toNat * 4)).block, (ad393.add ((x7_1).toNat * 4)).off + 1, none⟩ = some (.string ((rd_T46 l1 x7_1).f1)) ∧ w12.cell? ⟨(ad393.add ((x7_1).toNat * 4)).block, (ad393.add ((x7_1).toNat * 4)).off + 2, none⟩ = some (.int .i64 ((rd_T46 l1 x7_1).f2)) ∧ w12.cell? ⟨(ad393.add ((x7_1).toNat * 4)).block, (ad393.add ((x7_1).toNat * 4)).off + 3, none⟩ = some (.int .i64 ((rd_T46 l1 x7_1).f3)) := hS_
              refine norm_ (a' := ?_) ?_ ?_
              rotate_left
              · simp only [putAll, Act.put, List.setIfInBounds_toArray, List.set_cons_zero, List.set_cons_succ]
                rfl
              refine one_ (i := 10) (N := none) #[true, true, true, true, true, true, true, true, true, true, true, false] rfl rfl (one_of HT_.out (by kernel_rfl)) (by decide) (fun K hK => ?_)
              have hs13 : w12.cell? ⟨gb394, 0, none⟩ = some (.int .i64 0) := (blk_cell BK394.out 0).trans rfl
              have hfs13 := blk_frozen BK394.out 0
              have hns13_1 := NB395_394.out
              have hms13_1 := NB394_395.out
              have hs14 : w12.cell? ⟨gb394, 1, none⟩ = some (.string (⟨#[]⟩ : ByteArray)) := (blk_cell BK394.out 1).trans rfl
              have hfs14 := blk_frozen BK394.out 1
              have hns14_1 := NB395_394.out
              have hms14_1 := NB394_395.out
              have hs15 : w12.cell? ⟨gb394, 2, none⟩ = some (.int .i64 0) := (blk_cell BK394.out 2).trans rfl
              have hfs15 := blk_frozen BK394.out 2
              have hns15_1 := NB395_394.out
              have hms15_1 := NB394_395.out
              have hs16 : w12.cell? ⟨gb394, 3, none⟩ = some (.int .i64 0) := (blk_cell BK394.out 3).trans rfl
              have hfs16 := blk_frozen BK394.out 3
              have hns16_1 := NB395_394.out
              have hms16_1 := NB394_395.out
              refine skip_ (w1 := ?_) (by rfl) rfl ?_ ?_
              rotate_left
              · go_simp
                rfl
              refine hK.out _ _ ⟨((cell_far (p := ⟨gb394, _, none⟩) (by first | exact Nat.ne_of_lt (Nat.lt_of_lt_of_le (by have := World.block_lt_of_cell? _ _ hw392_0; first | rwa [add_block] at this | exact this) GW394.out) | (rw [add_block]; exact Nat.ne_of_lt (Nat.lt_of_lt_of_le (by have := World.block_lt_of_cell? _ _ hw392_0; first | rwa [add_block] at this | exact this) GW394.out)) | (show (Addr.add _ _).block ≠ _; rw [add_block]; exact Nat.ne_of_lt (Nat.lt_of_lt_of_le (by have := World.block_lt_of_cell? _ _ hw392_0; first | rwa [add_block] at this | exact this) GW394.out)) | (dsimp only; exact Nat.ne_of_lt (Nat.lt_of_lt_of_le (by have := World.block_lt_of_cell? _ _ hw392_0; first | rwa [add_block] at this | exact this) GW394.out))) _).trans (((cell_far (p := ⟨gb394, _, none⟩) (by first | exact Nat.ne_of_lt (Nat.lt_of_lt_of_le (by have := World.block_lt_of_cell? _ _ hw392_0; first | rwa [add_block] at this | exact this) GW394.out) | (rw [add_block]; exact Nat.ne_of_lt (Nat.lt_of_lt_of_le (by have := World.block_lt_of_cell? _ _ hw392_0; first | rwa [add_block] at this | exact this) GW394.out)) | (show (Addr.add _ _).block ≠ _; rw [add_block]; exact Nat.ne_of_lt (Nat.lt_of_lt_of_le (by have := World.block_lt_of_cell? _ _ hw392_0; first | rwa [add_block] at this | exact this) GW394.out)) | (dsimp only; exact Nat.ne_of_lt (Nat.lt_of_lt_of_le (by have := World.block_lt_of_cell? _ _ hw392_0; first | rwa [add_block] at this | exact this) GW394.out))) _).trans (((cell_far (p := ⟨gb394, _, none⟩) (by first | exact Nat.ne_of_lt (Nat.lt_of_lt_of_le (by have := World.block_lt_of_cell? _ _ hw392_0; first | rwa [add_block] at this | exact this) GW394.out) | (rw [add_block]; exact Nat.ne_of_lt (Nat.lt_of_lt_of_le (by have := World.block_lt_of_cell? _ _ hw392_0; first | rwa [add_block] at this | exact this) GW394.out)) | (show (Addr.add _ _).block ≠ _; rw [add_block]; exact Nat.ne_of_lt (Nat.lt_of_lt_of_le (by have := World.block_lt_of_cell? _ _ hw392_0; first | rwa [add_block] at this | exact this) GW394.out)) | (dsimp only; exact Nat.ne_of_lt (Nat.lt_of_lt_of_le (by have := World.block_lt_of_cell? _ _ hw392_0; first | rwa [add_block] at this | exact this) GW394.out))) _).trans (((cell_far (p := ⟨gb394, _, none⟩) (by first | exact Nat.ne_of_lt (Nat.lt_of_lt_of_le (by have := World.block_lt_of_cell? _ _ hw392_0; first | rwa [add_block] at this | exact this) GW394.out) | (rw [add_block]; exact Nat.ne_of_lt (Nat.lt_of_lt_of_le (by have := World.block_lt_of_cell? _ _ hw392_0; first | rwa [add_block] at this | exact this) GW394.out)) | (show (Addr.add _ _).block ≠ _; rw [add_block]; exact Nat.ne_of_lt (Nat.lt_of_lt_of_le (by have := World.block_lt_of_cell? _ _ hw392_0; first | rwa [add_block] at this | exact this) GW394.out)) | (dsimp only; exact Nat.ne_of_lt (Nat.lt_of_lt_of_le (by have := World.block_lt_of_cell? _ _ hw392_0; first | rwa [add_block] at this | exact this) GW394.out))) _).trans (hHeld.1)))))))), ((cell_far (p := ⟨gb394, _, none⟩) (by first | exact Nat.ne_of_lt (Nat.lt_of_lt_of_le (by have := World.block_lt_of_cell? _ _ hw392_1; first | rwa [add_block] at this | exact this) GW394.out) | (rw [add_block]; exact Nat.ne_of_lt (Nat.lt_of_lt_of_le (by have := World.block_lt_of_cell? _ _ hw392_1; first | rwa [add_block] at this | exact this) GW394.out)) | (show (Addr.add _ _).block ≠ _; rw [add_block]; exact Nat.ne_of_lt (Nat.lt_of_lt_of_le (by have := World.block_lt_of_cell? _ _ hw392_1; first | rwa [add_block] at this | exact this) GW394.out)) | (dsimp only; exact Nat.ne_of_lt (Nat.lt_of_lt_of_le (by have := World.block_lt_of_cell? _ _ hw392_1; first | rwa [add_block] at this | exact this) GW394.out))) _).trans (((cell_far (p := ⟨gb394, _, none⟩) (by first | exact Nat.ne_of_lt (Nat.lt_of_lt_of_le (by have := World.block_lt_of_cell? _ _ hw392_1; first | rwa [add_block] at this | exact this) GW394.out) | (rw [add_block]; exact Nat.ne_of_lt (Nat.lt_of_lt_of_le (by have := World.block_lt_of_cell? _ _ hw392_1; first | rwa [add_block] at this | exact this) GW394.out)) | (show (Addr.add _ _).block ≠ _; rw [add_block]; exact Nat.ne_of_lt (Nat.lt_of_lt_of_le (by have := World.block_lt_of_cell? _ _ hw392_1; first | rwa [add_block] at this | exact this) GW394.out)) | (dsimp only; exact Nat.ne_of_lt (Nat.lt_of_lt_of_le (by have := World.block_lt_of_cell? _ _ hw392_1; first | rwa [add_block] at this | exact this) GW394.out))) _).trans (((cell_far (p := ⟨gb394, _, none⟩) (by first | exact Nat.ne_of_lt (Nat.lt_of_lt_of_le (by have := World.block_lt_of_cell? _ _ hw392_1; first | rwa [add_block] at this | exact this) GW394.out) | (rw [add_block]; exact Nat.ne_of_lt (Nat.lt_of_lt_of_le (by have := World.block_lt_of_cell? _ _ hw392_1; first | rwa [add_block] at this | exact this) GW394.out)) | (show (Addr.add _ _).block ≠ _; rw [add_block]; exact Nat.ne_of_lt (Nat.lt_of_lt_of_le (by have := World.block_lt_of_cell? _ _ hw392_1; first | rwa [add_block] at this | exact this) GW394.out)) | (dsimp only; exact Nat.ne_of_lt (Nat.lt_of_lt_of_le (by have := World.block_lt_of_cell? _ _ hw392_1; first | rwa [add_block] at this | exact this) GW394.out))) _).trans (((cell_far (p := ⟨gb394, _, none⟩) (by first | exact Nat.ne_of_lt (Nat.lt_of_lt_of_le (by have := World.block_lt_of_cell? _ _ hw392_1; first | rwa [add_block] at this | exact this) GW394.out) | (rw [add_block]; exact Nat.ne_of_lt (Nat.lt_of_lt_of_le (by have := World.block_lt_of_cell? _ _ hw392_1; first | rwa [add_block] at this | exact this) GW394.out)) | (show (Addr.add _ _).block ≠ _; rw [add_block]; exact Nat.ne_of_lt (Nat.lt_of_lt_of_le (by have := World.block_lt_of_cell? _ _ hw392_1; first | rwa [add_block] at this | exact this) GW394.out)) | (dsimp only; exact Nat.ne_of_lt (Nat.lt_of_lt_of_le (by have := World.block_lt_of_cell? _ _ hw392_1; first | rwa [add_block] at this | exact this) GW394.out))) _).trans (hHeld.2.1)))))))), ((cell_far (p := ⟨gb394, _, none⟩) (by first | exact Nat.ne_of_lt (Nat.lt_of_lt_of_le (by have := World.block_lt_of_cell? _ _ hw392_2; first | rwa [add_block] at this | exact this) GW394.out) | (rw [add_block]; exact Nat.ne_of_lt (Nat.lt_of_lt_of_le (by have := World.block_lt_of_cell? _ _ hw392_2; first | rwa [add_block] at this | exact this) GW394.out)) | (show (Addr.add _ _).block ≠ _; rw [add_block]; exact Nat.ne_of_lt (Nat.lt_of_lt_of_le (by have := World.block_lt_of_cell? _ _ hw392_2; first | rwa [add_block] at this | exact this) GW394.out)) | (dsimp only; exact Nat.ne_of_lt (Nat.lt_of_lt_of_le (by have := World.block_lt_of_cell? _ _ hw392_2; first | rwa [add_block] at this | exact this) GW394.out))) _).trans (((cell_far (p := ⟨gb394, _, none⟩) (by first | exact Nat.ne_of_lt (Nat.lt_of_lt_of_le (by have := World.block_lt_of_cell? _ _ hw392_2; first | rwa [add_block] at this | exact this) GW394.out) | (rw [add_block]; exact Nat.ne_of_lt (Nat.lt_of_lt_of_le (by have := World.block_lt_of_cell? _ _ hw392_2; first | rwa [add_block] at this | exact this) GW394.out)) | (show (Addr.add _ _).block ≠ _; rw [add_block]; exact Nat.ne_of_lt (Nat.lt_of_lt_of_le (by have := World.block_lt_of_cell? _ _ hw392_2; first | rwa [add_block] at this | exact this) GW394.out)) | (dsimp only; exact Nat.ne_of_lt (Nat.lt_of_lt_of_le (by have := World.block_lt_of_cell? _ _ hw392_2; first | rwa [add_block] at this | exact this) GW394.out))) _).trans (((cell_far (p := ⟨gb394, _, none⟩) (by first | exact Nat.ne_of_lt (Nat.lt_of_lt_of_le (by have := World.block_lt_of_cell? _ _ hw392_2; first | rwa [add_block] at this | exact this) GW394.out) | (rw [add_block]; exact Nat.ne_of_lt (Nat.lt_of_lt_of_le (by have := World.block_lt_of_cell? _ _ hw392_2; first | rwa [add_block] at this | exact this) GW394.out)) | (show (Addr.add _ _).block ≠ _; rw [add_block]; exact Nat.ne_of_lt (Nat.lt_of_lt_of_le (by have := World.block_lt_of_cell? _ _ hw392_2; first | rwa [add_block] at this | exact this) GW394.out)) | (dsimp only; exact Nat.ne_of_lt (Nat.lt_of_lt_of_le (by have := World.block_lt_of_cell? _ _ hw392_2; first | rwa [add_block] at this | exact this) GW394.out))) _).trans (((cell_far (p := ⟨gb394, _, none⟩) (by first | exact Nat.ne_of_lt (Nat.lt_of_lt_of_le (by have := World.block_lt_of_cell? _ _ hw392_2; first | rwa [add_block] at this | exact this) GW394.out) | (rw [add_block]; exact Nat.ne_of_lt (Nat.lt_of_lt_of_le (by have := World.block_lt_of_cell? _ _ hw392_2; first | rwa [add_block] at this | exact this) GW394.out)) | (show (Addr.add _ _).block ≠ _; rw [add_block]; exact Nat.ne_of_lt (Nat.lt_of_lt_of_le (by have := World.block_lt_of_cell? _ _ hw392_2; first | rwa [add_block] at this | exact this) GW394.out)) | (dsimp only; exact Nat.ne_of_lt (Nat.lt_of_lt_of_le (by have := World.block_lt_of_cell? _ _ hw392_2; first | rwa [add_block] at this | exact this) GW394.out))) _).trans (hHeld.2.2.1)))))))), ((cell_far (p := ⟨gb394, _, none⟩) (by first | exact Nat.ne_of_lt (Nat.lt_of_lt_of_le (by have := World.block_lt_of_cell? _ _ hw392_3; first | rwa [add_block] at this | exact this) GW394.out) | (rw [add_block]; exact Nat.ne_of_lt (Nat.lt_of_lt_of_le (by have := World.block_lt_of_cell? _ _ hw392_3; first | rwa [add_block] at this | exact this) GW394.out)) | (show (Addr.add _ _).block ≠ _; rw [add_block]; exact Nat.ne_of_lt (Nat.lt_of_lt_of_le (by have := World.block_lt_of_cell? _ _ hw392_3; first | rwa [add_block] at this | exact this) GW394.out)) | (dsimp only; exact Nat.ne_of_lt (Nat.lt_of_lt_of_le (by have := World.block_lt_of_cell? _ _ hw392_3; first | rwa [add_block] at this | exact this) GW394.out))) _).trans (((cell_far (p := ⟨gb394, _, none⟩) (by first | exact Nat.ne_of_lt (Nat.lt_of_lt_of_le (by have := World.block_lt_of_cell? _ _ hw392_3; first | rwa [add_block] at this | exact this) GW394.out) | (rw [add_block]; exact Nat.ne_of_lt (Nat.lt_of_lt_of_le (by have := World.block_lt_of_cell? _ _ hw392_3; first | rwa [add_block] at this | exact this) GW394.out)) | (show (Addr.add _ _).block ≠ _; rw [add_block]; exact Nat.ne_of_lt (Nat.lt_of_lt_of_le (by have := World.block_lt_of_cell? _ _ hw392_3; first | rwa [add_block] at this | exact this) GW394.out)) | (dsimp only; exact Nat.ne_of_lt (Nat.lt_of_lt_of_le (by have := World.block_lt_of_cell? _ _ hw392_3; first | rwa [add_block] at this | exact this) GW394.out))) _).trans (((cell_far (p := ⟨gb394, _, none⟩) (by first | exact Nat.ne_of_lt (Nat.lt_of_lt_of_le (by have := World.block_lt_of_cell? _ _ hw392_3; first | rwa [add_block] at this | exact this) GW394.out) | (rw [add_block]; exact Nat.ne_of_lt (Nat.lt_of_lt_of_le (by have := World.block_lt_of_cell? _ _ hw392_3; first | rwa [add_block] at this | exact this) GW394.out)) | (show (Addr.add _ _).block ≠ _; rw [add_block]; exact Nat.ne_of_lt (Nat.lt_of_lt_of_le (by have := World.block_lt_of_cell? _ _ hw392_3; first | rwa [add_block] at this | exact this) GW394.out)) | (dsimp only; exact Nat.ne_of_lt (Nat.lt_of_lt_of_le (by have := World.block_lt_of_cell? _ _ hw392_3; first | rwa [add_block] at this | exact this) GW394.out))) _).trans (((cell_far (p := ⟨gb394, _, none⟩) (by first | exact Nat.ne_of_lt (Nat.lt_of_lt_of_le (by have := World.block_lt_of_cell? _ _ hw392_3; first | rwa [add_block] at this | exact this) GW394.out) | (rw [add_block]; exact Nat.ne_of_lt (Nat.lt_of_lt_of_le (by have := World.block_lt_of_cell? _ _ hw392_3; first | rwa [add_block] at this | exact this) GW394.out)) | (show (Addr.add _ _).block ≠ _; rw [add_block]; exact Nat.ne_of_lt (Nat.lt_of_lt_of_le (by have := World.block_lt_of_cell? _ _ hw392_3; first | rwa [add_block] at this | exact this) GW394.out)) | (dsimp only; exact Nat.ne_of_lt (Nat.lt_of_lt_of_le (by have := World.block_lt_of_cell? _ _ hw392_3; first | rwa [add_block] at this | exact this) GW394.out))) _).trans (hHeld.2.2.2.1)))))))), ((cell_far (p := ⟨gb394, _, none⟩) (by first | exact Nat.ne_of_lt (Nat.lt_of_lt_of_le (by have := World.block_lt_of_cell? _ _ hw393_0; first | rwa [add_block] at this | exact this) GW394.out) | (rw [add_block]; exact Nat.ne_of_lt (Nat.lt_of_lt_of_le (by have := World.block_lt_of_cell? _ _ hw393_0; first | rwa [add_block] at this | exact this) GW394.out)) | (show (Addr.add _ _).block ≠ _; rw [add_block]; exact Nat.ne_of_lt (Nat.lt_of_lt_of_le (by have := World.block_lt_of_cell? _ _ hw393_0; first | rwa [add_block] at this | exact this) GW394.out)) | (dsimp only; exact Nat.ne_of_lt (Nat.lt_of_lt_of_le (by have := World.block_lt_of_cell? _ _ hw393_0; first | rwa [add_block] at this | exact this) GW394.out))) _).trans (((cell_far (p := ⟨gb394, _, none⟩) (by first | exact Nat.ne_of_lt (Nat.lt_of_lt_of_le (by have := World.block_lt_of_cell? _ _ hw393_0; first | rwa [add_block] at this | exact this) GW394.out) | (rw [add_block]; exact Nat.ne_of_lt (Nat.lt_of_lt_of_le (by have := World.block_lt_of_cell? _ _ hw393_0; first | rwa [add_block] at this | exact this) GW394.out)) | (show (Addr.add _ _).block ≠ _; rw [add_block]; exact Nat.ne_of_lt (Nat.lt_of_lt_of_le (by have := World.block_lt_of_cell? _ _ hw393_0; first | rwa [add_block] at this | exact this) GW394.out)) | (dsimp only; exact Nat.ne_of_lt (Nat.lt_of_lt_of_le (by have := World.block_lt_of_cell? _ _ hw393_0; first | rwa [add_block] at this | exact this) GW394.out))) _).trans (((cell_far (p := ⟨gb394, _, none⟩) (by first | exact Nat.ne_of_lt (Nat.lt_of_lt_of_le (by have := World.block_lt_of_cell? _ _ hw393_0; first | rwa [add_block] at this | exact this) GW394.out) | (rw [add_block]; exact Nat.ne_of_lt (Nat.lt_of_lt_of_le (by have := World.block_lt_of_cell? _ _ hw393_0; first | rwa [add_block] at this | exact this) GW394.out)) | (show (Addr.add _ _).block ≠ _; rw [add_block]; exact Nat.ne_of_lt (Nat.lt_of_lt_of_le (by have := World.block_lt_of_cell? _ _ hw393_0; first | rwa [add_block] at this | exact this) GW394.out)) | (dsimp only; exact Nat.ne_of_lt (Nat.lt_of_lt_of_le (by have := World.block_lt_of_cell? _ _ hw393_0; first | rwa [add_block] at this | exact this) GW394.out))) _).trans (((cell_far (p := ⟨gb394, _, none⟩) (by first | exact Nat.ne_of_lt (Nat.lt_of_lt_of_le (by have := World.block_lt_of_cell? _ _ hw393_0; first | rwa [add_block] at this | exact this) GW394.out) | (rw [add_block]; exact Nat.ne_of_lt (Nat.lt_of_lt_of_le (by have := World.block_lt_of_cell? _ _ hw393_0; first | rwa [add_block] at this | exact this) GW394.out)) | (show (Addr.add _ _).block ≠ _; rw [add_block]; exact Nat.ne_of_lt (Nat.lt_of_lt_of_le (by have := World.block_lt_of_cell? _ _ hw393_0; first | rwa [add_block] at this | exact this) GW394.out)) | (dsimp only; exact Nat.ne_of_lt (Nat.lt_of_lt_of_le (by have := World.block_lt_of_cell? _ _ hw393_0; first | rwa [add_block] at this | exact this) GW394.out))) _).trans (hHeld.2.2.2.2.1)))))))), ((cell_far (p := ⟨gb394, _, none⟩) (by first | exact Nat.ne_of_lt (Nat.lt_of_lt_of_le (by have := World.block_lt_of_cell? _ _ hw393_1; first | rwa [add_block] at this | exact this) GW394.out) | (rw [add_block]; exact Nat.ne_of_lt (Nat.lt_of_lt_of_le (by have := World.block_lt_of_cell? _ _ hw393_1; first | rwa [add_block] at this | exact this) GW394.out)) | (show (Addr.add _ _).block ≠ _; rw [add_block]; exact Nat.ne_of_lt (Nat.lt_of_lt_of_le (by have := World.block_lt_of_cell? _ _ hw393_1; first | rwa [add_block] at this | exact this) GW394.out)) | (dsimp only; exact Nat.ne_of_lt (Nat.lt_of_lt_of_le (by have := World.block_lt_of_cell? _ _ hw393_1; first | rwa [add_block] at this | exact this) GW394.out))) _).trans (((cell_far (p := ⟨gb394, _, none⟩) (by first | exact Nat.ne_of_lt (Nat.lt_of_lt_of_le (by have := World.block_lt_of_cell? _ _ hw393_1; first | rwa [add_block] at this | exact this) GW394.out) | (rw [add_block]; exact Nat.ne_of_lt (Nat.lt_of_lt_of_le (by have := World.block_lt_of_cell? _ _ hw393_1; first | rwa [add_block] at this | exact this) GW394.out)) | (show (Addr.add _ _).block ≠ _; rw [add_block]; exact Nat.ne_of_lt (Nat.lt_of_lt_of_le (by have := World.block_lt_of_cell? _ _ hw393_1; first | rwa [add_block] at this | exact this) GW394.out)) | (dsimp only; exact Nat.ne_of_lt (Nat.lt_of_lt_of_le (by have := World.block_lt_of_cell? _ _ hw393_1; first | rwa [add_block] at this | exact this) GW394.out))) _).trans (((cell_far (p := ⟨gb394, _, none⟩) (by first | exact Nat.ne_of_lt (Nat.lt_of_lt_of_le (by have := World.block_lt_of_cell? _ _ hw393_1; first | rwa [add_block] at this | exact this) GW394.out) | (rw [add_block]; exact Nat.ne_of_lt (Nat.lt_of_lt_of_le (by have := World.block_lt_of_cell? _ _ hw393_1; first | rwa [add_block] at this | exact this) GW394.out)) | (show (Addr.add _ _).block ≠ _; rw [add_block]; exact Nat.ne_of_lt (Nat.lt_of_lt_of_le (by have := World.block_lt_of_cell? _ _ hw393_1; first | rwa [add_block] at this | exact this) GW394.out)) | (dsimp only; exact Nat.ne_of_lt (Nat.lt_of_lt_of_le (by have := World.block_lt_of_cell? _ _ hw393_1; first | rwa [add_block] at this | exact this) GW394.out))) _).trans (((cell_far (p := ⟨gb394, _, none⟩) (by first | exact Nat.ne_of_lt (Nat.lt_of_lt_of_le (by have := World.block_lt_of_cell? _ _ hw393_1; first | rwa [add_block] at this | exact this) GW394.out) | (rw [add_block]; exact Nat.ne_of_lt (Nat.lt_of_lt_of_le (by have := World.block_lt_of_cell? _ _ hw393_1; first | rwa [add_block] at this | exact this) GW394.out)) | (show (Addr.add _ _).block ≠ _; rw [add_block]; exact Nat.ne_of_lt (Nat.lt_of_lt_of_le (by have := World.block_lt_of_cell? _ _ hw393_1; first | rwa [add_block] at this | exact this) GW394.out)) | (dsimp only; exact Nat.ne_of_lt (Nat.lt_of_lt_of_le (by have := World.block_lt_of_cell? _ _ hw393_1; first | rwa [add_block] at this | exact this) GW394.out))) _).trans (hHeld.2.2.2.2.2.1)))))))), ((cell_far (p := ⟨gb394, _, none⟩) (by first | exact Nat.ne_of_lt (Nat.lt_of_lt_of_le (by have := World.block_lt_of_cell? _ _ hw393_2; first | rwa [add_block] at this | exact this) GW394.out) | (rw [add_block]; exact Nat.ne_of_lt (Nat.lt_of_lt_of_le (by have := World.block_lt_of_cell? _ _ hw393_2; first | rwa [add_block] at this | exact this) GW394.out)) | (show (Addr.add _ _).block ≠ _; rw [add_block]; exact Nat.ne_of_lt (Nat.lt_of_lt_of_le (by have := World.block_lt_of_cell? _ _ hw393_2; first | rwa [add_block] at this | exact this) GW394.out)) | (dsimp only; exact Nat.ne_of_lt (Nat.lt_of_lt_of_le (by have := World.block_lt_of_cell? _ _ hw393_2; first | rwa [add_block] at this | exact this) GW394.out))) _).trans (((cell_far (p := ⟨gb394, _, none⟩) (by first | exact Nat.ne_of_lt (Nat.lt_of_lt_of_le (by have := World.block_lt_of_cell? _ _ hw393_2; first | rwa [add_block] at this | exact this) GW394.out) | (rw [add_block]; exact Nat.ne_of_lt (Nat.lt_of_lt_of_le (by have := World.block_lt_of_cell? _ _ hw393_2; first | rwa [add_block] at this | exact this) GW394.out)) | (show (Addr.add _ _).block ≠ _; rw [add_block]; exact Nat.ne_of_lt (Nat.lt_of_lt_of_le (by have := World.block_lt_of_cell? _ _ hw393_2; first | rwa [add_block] at this | exact this) GW394.out)) | (dsimp only; exact Nat.ne_of_lt (Nat.lt_of_lt_of_le (by have := World.block_lt_of_cell? _ _ hw393_2; first | rwa [add_block] at this | exact this) GW394.out))) _).trans (((cell_far (p := ⟨gb394, _, none⟩) (by first | exact Nat.ne_of_lt (Nat.lt_of_lt_of_le (by have := World.block_lt_of_cell? _ _ hw393_2; first | rwa [add_block] at this | exact this) GW394.out) | (rw [add_block]; exact Nat.ne_of_lt (Nat.lt_of_lt_of_le (by have := World.block_lt_of_cell? _ _ hw393_2; first | rwa [add_block] at this | exact this) GW394.out)) | (show (Addr.add _ _).block ≠ _; rw [add_block]; exact Nat.ne_of_lt (Nat.lt_of_lt_of_le (by have := World.block_lt_of_cell? _ _ hw393_2; first | rwa [add_block] at this | exact this) GW394.out)) | (dsimp only; exact Nat.ne_of_lt (Nat.lt_of_lt_of_le (by have := World.block_lt_of_cell? _ _ hw393_2; first | rwa [add_block] at this | exact this) GW394.out))) _).trans (((cell_far (p := ⟨gb394, _, none⟩) (by first | exact Nat.ne_of_lt (Nat.lt_of_lt_of_le (by have := World.block_lt_of_cell? _ _ hw393_2; first | rwa [add_block] at this | exact this) GW394.out) | (rw [add_block]; exact Nat.ne_of_lt (Nat.lt_of_lt_of_le (by have := World.block_lt_of_cell? _ _ hw393_2; first | rwa [add_block] at this | exact this) GW394.out)) | (show (Addr.add _ _).block ≠ _; rw [add_block]; exact Nat.ne_of_lt (Nat.lt_of_lt_of_le (by have := World.block_lt_of_cell? _ _ hw393_2; first | rwa [add_block] at this | exact this) GW394.out)) | (dsimp only; exact Nat.ne_of_lt (Nat.lt_of_lt_of_le (by have := World.block_lt_of_cell? _ _ hw393_2; first | rwa [add_block] at this | exact this) GW394.out))) _).trans (hHeld.2.2.2.2.2.2.1)))))))), ((cell_far (p := ⟨gb394, _, none⟩) (by first | exact Nat.ne_of_lt (Nat.lt_of_lt_of_le (by have := World.block_lt_of_cell? _ _ hw393_3; first | rwa [add_block] at this | exact this) GW394.out) | (rw [add_block]; exact Nat.ne_of_lt (Nat.lt_of_lt_of_le (by have := World.block_lt_of_cell? _ _ hw393_3; first | rwa [add_block] at this | exact this) GW394.out)) | (show (Addr.add _ _).block ≠ _; rw [add_block]; exact Nat.ne_of_lt (Nat.lt_of_lt_of_le (by have := World.block_lt_of_cell? _ _ hw393_3; first | rwa [add_block] at this | exact this) GW394.out)) | (dsimp only; exact Nat.ne_of_lt (Nat.lt_of_lt_of_le (by have := World.block_lt_of_cell? _ _ hw393_3; first | rwa [add_block] at this | exact this) GW394.out))) _).trans (((cell_far (p := ⟨gb394, _, none⟩) (by first | exact Nat.ne_of_lt (Nat.lt_of_lt_of_le (by have := World.block_lt_of_cell? _ _ hw393_3; first | rwa [add_block] at this | exact this) GW394.out) | (rw [add_block]; exact Nat.ne_of_lt (Nat.lt_of_lt_of_le (by have := World.block_lt_of_cell? _ _ hw393_3; first | rwa [add_block] at this | exact this) GW394.out)) | (show (Addr.add _ _).block ≠ _; rw [add_block]; exact Nat.ne_of_lt (Nat.lt_of_lt_of_le (by have := World.block_lt_of_cell? _ _ hw393_3; first | rwa [add_block] at this | exact this) GW394.out)) | (dsimp only; exact Nat.ne_of_lt (Nat.lt_of_lt_of_le (by have := World.block_lt_of_cell? _ _ hw393_3; first | rwa [add_block] at this | exact this) GW394.out))) _).trans (((cell_far (p := ⟨gb394, _, none⟩) (by first | exact Nat.ne_of_lt (Nat.lt_of_lt_of_le (by have := World.block_lt_of_cell? _ _ hw393_3; first | rwa [add_block] at this | exact this) GW394.out) | (rw [add_block]; exact Nat.ne_of_lt (Nat.lt_of_lt_of_le (by have := World.block_lt_of_cell? _ _ hw393_3; first | rwa [add_block] at this | exact this) GW394.out)) | (show (Addr.add _ _).block ≠ _; rw [add_block]; exact Nat.ne_of_lt (Nat.lt_of_lt_of_le (by have := World.block_lt_of_cell? _ _ hw393_3; first | rwa [add_block] at this | exact this) GW394.out)) | (dsimp only; exact Nat.ne_of_lt (Nat.lt_of_lt_of_le (by have := World.block_lt_of_cell? _ _ hw393_3; first | rwa [add_block] at this | exact this) GW394.out))) _).trans (((cell_far (p := ⟨gb394, _, none⟩) (by first | exact Nat.ne_of_lt (Nat.lt_of_lt_of_le (by have := World.block_lt_of_cell? _ _ hw393_3; first | rwa [add_block] at this | exact this) GW394.out) | (rw [add_block]; exact Nat.ne_of_lt (Nat.lt_of_lt_of_le (by have := World.block_lt_of_cell? _ _ hw393_3; first | rwa [add_block] at this | exact this) GW394.out)) | (show (Addr.add _ _).block ≠ _; rw [add_block]; exact Nat.ne_of_lt (Nat.lt_of_lt_of_le (by have := World.block_lt_of_cell? _ _ hw393_3; first | rwa [add_block] at this | exact this) GW394.out)) | (dsimp only; exact Nat.ne_of_lt (Nat.lt_of_lt_of_le (by have := World.block_lt_of_cell? _ _ hw393_3; first | rwa [add_block] at this | exact this) GW394.out))) _).trans (hHeld.2.2.2.2.2.2.2))))))))⟩ (fun hHeld => ?_)
              clear hK K
              refine one_ (i := 11) (N := none) #[true, true, true, true, true, true, true, true, true, true, true, true] rfl rfl (one_of HT_.out (by kernel_rfl)) (by decide) (fun K hK => ?_)
              have hs17 : w12.cell? ⟨gb395, 0, none⟩ = some (.int .i64 0) := (blk_cell BK395.out 0).trans rfl
              have hfs17 := blk_frozen BK395.out 0
              have hns17_0 := NB394_395.out
              have hms17_0 := NB395_394.out
              have hs18 : w12.cell? ⟨gb395, 1, none⟩ = some (.string (⟨#[]⟩ : ByteArray)) := (blk_cell BK395.out 1).trans rfl
              have hfs18 := blk_frozen BK395.out 1
              have hns18_0 := NB394_395.out
              have hms18_0 := NB395_394.out
              have hs19 : w12.cell? ⟨gb395, 2, none⟩ = some (.int .i64 0) := (blk_cell BK395.out 2).trans rfl
              have hfs19 := blk_frozen BK395.out 2
              have hns19_0 := NB394_395.out
              have hms19_0 := NB395_394.out
              have hs20 : w12.cell? ⟨gb395, 3, none⟩ = some (.int .i64 0) := (blk_cell BK395.out 3).trans rfl
              have hfs20 := blk_frozen BK395.out 3
              have hns20_0 := NB394_395.out
              have hms20_0 := NB395_394.out
              refine skip_ (w1 := ?_) (by rfl) rfl ?_ ?_
              rotate_left
              · go_simp
                rfl
              refine hK.out _ _ ⟨((cell_far (p := ⟨gb395, _, none⟩) (by first | exact Nat.ne_of_lt (Nat.lt_of_lt_of_le (by have := World.block_lt_of_cell? _ _ hw392_0; first | rwa [add_block] at this | exact this) GW395.out) | (rw [add_block]; exact Nat.ne_of_lt (Nat.lt_of_lt_of_le (by have := World.block_lt_of_cell? _ _ hw392_0; first | rwa [add_block] at this | exact this) GW395.out)) | (show (Addr.add _ _).block ≠ _; rw [add_block]; exact Nat.ne_of_lt (Nat.lt_of_lt_of_le (by have := World.block_lt_of_cell? _ _ hw392_0; first | rwa [add_block] at this | exact this) GW395.out)) | (dsimp only; exact Nat.ne_of_lt (Nat.lt_of_lt_of_le (by have := World.block_lt_of_cell? _ _ hw392_0; first | rwa [add_block] at this | exact this) GW395.out))) _).trans (((cell_far (p := ⟨gb395, _, none⟩) (by first | exact Nat.ne_of_lt (Nat.lt_of_lt_of_le (by have := World.block_lt_of_cell? _ _ hw392_0; first | rwa [add_block] at this | exact this) GW395.out) | (rw [add_block]; exact Nat.ne_of_lt (Nat.lt_of_lt_of_le (by have := World.block_lt_of_cell? _ _ hw392_0; first | rwa [add_block] at this | exact this) GW395.out)) | (show (Addr.add _ _).block ≠ _; rw [add_block]; exact Nat.ne_of_lt (Nat.lt_of_lt_of_le (by have := World.block_lt_of_cell? _ _ hw392_0; first | rwa [add_block] at this | exact this) GW395.out)) | (dsimp only; exact Nat.ne_of_lt (Nat.lt_of_lt_of_le (by have := World.block_lt_of_cell? _ _ hw392_0; first | rwa [add_block] at this | exact this) GW395.out))) _).trans (((cell_far (p := ⟨gb395, _, none⟩) (by first | exact Nat.ne_of_lt (Nat.lt_of_lt_of_le (by have := World.block_lt_of_cell? _ _ hw392_0; first | rwa [add_block] at this | exact this) GW395.out) | (rw [add_block]; exact Nat.ne_of_lt (Nat.lt_of_lt_of_le (by have := World.block_lt_of_cell? _ _ hw392_0; first | rwa [add_block] at this | exact this) GW395.out)) | (show (Addr.add _ _).block ≠ _; rw [add_block]; exact Nat.ne_of_lt (Nat.lt_of_lt_of_le (by have := World.block_lt_of_cell? _ _ hw392_0; first | rwa [add_block] at this | exact this) GW395.out)) | (dsimp only; exact Nat.ne_of_lt (Nat.lt_of_lt_of_le (by have := World.block_lt_of_cell? _ _ hw392_0; first | rwa [add_block] at this | exact this) GW395.out))) _).trans (((cell_far (p := ⟨gb395, _, none⟩) (by first | exact Nat.ne_of_lt (Nat.lt_of_lt_of_le (by have := World.block_lt_of_cell? _ _ hw392_0; first | rwa [add_block] at this | exact this) GW395.out) | (rw [add_block]; exact Nat.ne_of_lt (Nat.lt_of_lt_of_le (by have := World.block_lt_of_cell? _ _ hw392_0; first | rwa [add_block] at this | exact this) GW395.out)) | (show (Addr.add _ _).block ≠ _; rw [add_block]; exact Nat.ne_of_lt (Nat.lt_of_lt_of_le (by have := World.block_lt_of_cell? _ _ hw392_0; first | rwa [add_block] at this | exact this) GW395.out)) | (dsimp only; exact Nat.ne_of_lt (Nat.lt_of_lt_of_le (by have := World.block_lt_of_cell? _ _ hw392_0; first | rwa [add_block] at this | exact this) GW395.out))) _).trans (hHeld.1)))))))), ((cell_far (p := ⟨gb395, _, none⟩) (by first | exact Nat.ne_of_lt (Nat.lt_of_lt_of_le (by have := World.block_lt_of_cell? _ _ hw392_1; first | rwa [add_block] at this | exact this) GW395.out) | (rw [add_block]; exact Nat.ne_of_lt (Nat.lt_of_lt_of_le (by have := World.block_lt_of_cell? _ _ hw392_1; first | rwa [add_block] at this | exact this) GW395.out)) | (show (Addr.add _ _).block ≠ _; rw [add_block]; exact Nat.ne_of_lt (Nat.lt_of_lt_of_le (by have := World.block_lt_of_cell? _ _ hw392_1; first | rwa [add_block] at this | exact this) GW395.out)) | (dsimp only; exact Nat.ne_of_lt (Nat.lt_of_lt_of_le (by have := World.block_lt_of_cell? _ _ hw392_1; first | rwa [add_block] at this | exact this) GW395.out))) _).trans (((cell_far (p := ⟨gb395, _, none⟩) (by first | exact Nat.ne_of_lt (Nat.lt_of_lt_of_le (by have := World.block_lt_of_cell? _ _ hw392_1; first | rwa [add_block] at this | exact this) GW395.out) | (rw [add_block]; exact Nat.ne_of_lt (Nat.lt_of_lt_of_le (by have := World.block_lt_of_cell? _ _ hw392_1; first | rwa [add_block] at this | exact this) GW395.out)) | (show (Addr.add _ _).block ≠ _; rw [add_block]; exact Nat.ne_of_lt (Nat.lt_of_lt_of_le (by have := World.block_lt_of_cell? _ _ hw392_1; first | rwa [add_block] at this | exact this) GW395.out)) | (dsimp only; exact Nat.ne_of_lt (Nat.lt_of_lt_of_le (by have := World.block_lt_of_cell? _ _ hw392_1; first | rwa [add_block] at this | exact this) GW395.out))) _).trans (((cell_far (p := ⟨gb395, _, none⟩) (by first | exact Nat.ne_of_lt (Nat.lt_of_lt_of_le (by have := World.block_lt_of_cell? _ _ hw392_1; first | rwa [add_block] at this | exact this) GW395.out) | (rw [add_block]; exact Nat.ne_of_lt (Nat.lt_of_lt_of_le (by have := World.block_lt_of_cell? _ _ hw392_1; first | rwa [add_block] at this | exact this) GW395.out)) | (show (Addr.add _ _).block ≠ _; rw [add_block]; exact Nat.ne_of_lt (Nat.lt_of_lt_of_le (by have := World.block_lt_of_cell? _ _ hw392_1; first | rwa [add_block] at this | exact this) GW395.out)) | (dsimp only; exact Nat.ne_of_lt (Nat.lt_of_lt_of_le (by have := World.block_lt_of_cell? _ _ hw392_1; first | rwa [add_block] at this | exact this) GW395.out))) _).trans (((cell_far (p := ⟨gb395, _, none⟩) (by first | exact Nat.ne_of_lt (Nat.lt_of_lt_of_le (by have := World.block_lt_of_cell? _ _ hw392_1; first | rwa [add_block] at this | exact this) GW395.out) | (rw [add_block]; exact Nat.ne_of_lt (Nat.lt_of_lt_of_le (by have := World.block_lt_of_cell? _ _ hw392_1; first | rwa [add_block] at this | exact this) GW395.out)) | (show (Addr.add _ _).block ≠ _; rw [add_block]; exact Nat.ne_of_lt (Nat.lt_of_lt_of_le (by have := World.block_lt_of_cell? _ _ hw392_1; first | rwa [add_block] at this | exact this) GW395.out)) | (dsimp only; exact Nat.ne_of_lt (Nat.lt_of_lt_of_le (by have := World.block_lt_of_cell? _ _ hw392_1; first | rwa [add_block] at this | exact this) GW395.out))) _).trans (hHeld.2.1)))))))), ((cell_far (p := ⟨gb395, _, none⟩) (by first | exact Nat.ne_of_lt (Nat.lt_of_lt_of_le (by have := World.block_lt_of_cell? _ _ hw392_2; first | rwa [add_block] at this | exact this) GW395.out) | (rw [add_block]; exact Nat.ne_of_lt (Nat.lt_of_lt_of_le (by have := World.block_lt_of_cell? _ _ hw392_2; first | rwa [add_block] at this | exact this) GW395.out)) | (show (Addr.add _ _).block ≠ _; rw [add_block]; exact Nat.ne_of_lt (Nat.lt_of_lt_of_le (by have := World.block_lt_of_cell? _ _ hw392_2; first | rwa [add_block] at this | exact this) GW395.out)) | (dsimp only; exact Nat.ne_of_lt (Nat.lt_of_lt_of_le (by have := World.block_lt_of_cell? _ _ hw392_2; first | rwa [add_block] at this | exact this) GW395.out))) _).trans (((cell_far (p := ⟨gb395, _, none⟩) (by first | exact Nat.ne_of_lt (Nat.lt_of_lt_of_le (by have := World.block_lt_of_cell? _ _ hw392_2; first | rwa [add_block] at this | exact this) GW395.out) | (rw [add_block]; exact Nat.ne_of_lt (Nat.lt_of_lt_of_le (by have := World.block_lt_of_cell? _ _ hw392_2; first | rwa [add_block] at this | exact this) GW395.out)) | (show (Addr.add _ _).block ≠ _; rw [add_block]; exact Nat.ne_of_lt (Nat.lt_of_lt_of_le (by have := World.block_lt_of_cell? _ _ hw392_2; first | rwa [add_block] at this | exact this) GW395.out)) | (dsimp only; exact Nat.ne_of_lt (Nat.lt_of_lt_of_le (by have := World.block_lt_of_cell? _ _ hw392_2; first | rwa [add_block] at this | exact this) GW395.out))) _).trans (((cell_far (p := ⟨gb395, _, none⟩) (by first | exact Nat.ne_of_lt (Nat.lt_of_lt_of_le (by have := World.block_lt_of_cell? _ _ hw392_2; first | rwa [add_block] at this | exact this) GW395.out) | (rw [add_block]; exact Nat.ne_of_lt (Nat.lt_of_lt_of_le (by have := World.block_lt_of_cell? _ _ hw392_2; first | rwa [add_block] at this | exact this) GW395.out)) | (show (Addr.add _ _).block ≠ _; rw [add_block]; exact Nat.ne_of_lt (Nat.lt_of_lt_of_le (by have := World.block_lt_of_cell? _ _ hw392_2; first | rwa [add_block] at this | exact this) GW395.out)) | (dsimp only; exact Nat.ne_of_lt (Nat.lt_of_lt_of_le (by have := World.block_lt_of_cell? _ _ hw392_2; first | rwa [add_block] at this | exact this) GW395.out))) _).trans (((cell_far (p := ⟨gb395, _, none⟩) (by first | exact Nat.ne_of_lt (Nat.lt_of_lt_of_le (by have := World.block_lt_of_cell? _ _ hw392_2; first | rwa [add_block] at this | exact this) GW395.out) | (rw [add_block]; exact Nat.ne_of_lt (Nat.lt_of_lt_of_le (by have := World.block_lt_of_cell? _ _ hw392_2; first | rwa [add_block] at this | exact this) GW395.out)) | (show (Addr.add _ _).block ≠ _; rw [add_block]; exact Nat.ne_of_lt (Nat.lt_of_lt_of_le (by have := World.block_lt_of_cell? _ _ hw392_2; first | rwa [add_block] at this | exact this) GW395.out)) | (dsimp only; exact Nat.ne_of_lt (Nat.lt_of_lt_of_le (by have := World.block_lt_of_cell? _ _ hw392_2; first | rwa [add_block] at this | exact this) GW395.out))) _).trans (hHeld.2.2.1)))))))), ((cell_far (p := ⟨gb395, _, none⟩) (by first | exact Nat.ne_of_lt (Nat.lt_of_lt_of_le (by have := World.block_lt_of_cell? _ _ hw392_3; first | rwa [add_block] at this | exact this) GW395.out) | (rw [add_block]; exact Nat.ne_of_lt (Nat.lt_of_lt_of_le (by have := World.block_lt_of_cell? _ _ hw392_3; first | rwa [add_block] at this | exact this) GW395.out)) | (show (Addr.add _ _).block ≠ _; rw [add_block]; exact Nat.ne_of_lt (Nat.lt_of_lt_of_le (by have := World.block_lt_of_cell? _ _ hw392_3; first | rwa [add_block] at this | exact this) GW395.out)) | (dsimp only; exact Nat.ne_of_lt (Nat.lt_of_lt_of_le (by have := World.block_lt_of_cell? _ _ hw392_3; first | rwa [add_block] at this | exact this) GW395.out))) _).trans (((cell_far (p := ⟨gb395, _, none⟩) (by first | exact Nat.ne_of_lt (Nat.lt_of_lt_of_le (by have := World.block_lt_of_cell? _ _ hw392_3; first | rwa [add_block] at this | exact this) GW395.out) | (rw [add_block]; exact Nat.ne_of_lt (Nat.lt_of_lt_of_le (by have := World.block_lt_of_cell? _ _ hw392_3; first | rwa [add_block] at this | exact this) GW395.out)) | (show (Addr.add _ _).block ≠ _; rw [add_block]; exact Nat.ne_of_lt (Nat.lt_of_lt_of_le (by have := World.block_lt_of_cell? _ _ hw392_3; first | rwa [add_block] at this | exact this) GW395.out)) | (dsimp only; exact Nat.ne_of_lt (Nat.lt_of_lt_of_le (by have := World.block_lt_of_cell? _ _ hw392_3; first | rwa [add_block] at this | exact this) GW395.out))) _).trans (((cell_far (p := ⟨gb395, _, none⟩) (by first | exact Nat.ne_of_lt (Nat.lt_of_lt_of_le (by have := World.block_lt_of_cell? _ _ hw392_3; first | rwa [add_block] at this | exact this) GW395.out) | (rw [add_block]; exact Nat.ne_of_lt (Nat.lt_of_lt_of_le (by have := World.block_lt_of_cell? _ _ hw392_3; first | rwa [add_block] at this | exact this) GW395.out)) | (show (Addr.add _ _).block ≠ _; rw [add_block]; exact Nat.ne_of_lt (Nat.lt_of_lt_of_le (by have := World.block_lt_of_cell? _ _ hw392_3; first | rwa [add_block] at this | exact this) GW395.out)) | (dsimp only; exact Nat.ne_of_lt (Nat.lt_of_lt_of_le (by have := World.block_lt_of_cell? _ _ hw392_3; first | rwa [add_block] at this | exact this) GW395.out))) _).trans (((cell_far (p := ⟨gb395, _, none⟩) (by first | exact Nat.ne_of_lt (Nat.lt_of_lt_of_le (by have := World.block_lt_of_cell? _ _ hw392_3; first | rwa [add_block] at this | exact this) GW395.out) | (rw [add_block]; exact Nat.ne_of_lt (Nat.lt_of_lt_of_le (by have := World.block_lt_of_cell? _ _ hw392_3; first | rwa [add_block] at this | exact this) GW395.out)) | (show (Addr.add _ _).block ≠ _; rw [add_block]; exact Nat.ne_of_lt (Nat.lt_of_lt_of_le (by have := World.block_lt_of_cell? _ _ hw392_3; first | rwa [add_block] at this | exact this) GW395.out)) | (dsimp only; exact Nat.ne_of_lt (Nat.lt_of_lt_of_le (by have := World.block_lt_of_cell? _ _ hw392_3; first | rwa [add_block] at this | exact this) GW395.out))) _).trans (hHeld.2.2.2.1)))))))), ((cell_far (p := ⟨gb395, _, none⟩) (by first | exact Nat.ne_of_lt (Nat.lt_of_lt_of_le (by have := World.block_lt_of_cell? _ _ hw393_0; first | rwa [add_block] at this | exact this) GW395.out) | (rw [add_block]; exact Nat.ne_of_lt (Nat.lt_of_lt_of_le (by have := World.block_lt_of_cell? _ _ hw393_0; first | rwa [add_block] at this | exact this) GW395.out)) | (show (Addr.add _ _).block ≠ _; rw [add_block]; exact Nat.ne_of_lt (Nat.lt_of_lt_of_le (by have := World.block_lt_of_cell? _ _ hw393_0; first | rwa [add_block] at this | exact this) GW395.out)) | (dsimp only; exact Nat.ne_of_lt (Nat.lt_of_lt_of_le (by have := World.block_lt_of_cell? _ _ hw393_0; first | rwa [add_block] at this | exact this) GW395.out))) _).trans (((cell_far (p := ⟨gb395, _, none⟩) (by first | exact Nat.ne_of_lt (Nat.lt_of_lt_of_le (by have := World.block_lt_of_cell? _ _ hw393_0; first | rwa [add_block] at this | exact this) GW395.out) | (rw [add_block]; exact Nat.ne_of_lt (Nat.lt_of_lt_of_le (by have := World.block_lt_of_cell? _ _ hw393_0; first | rwa [add_block] at this | exact this) GW395.out)) | (show (Addr.add _ _).block ≠ _; rw [add_block]; exact Nat.ne_of_lt (Nat.lt_of_lt_of_le (by have := World.block_lt_of_cell? _ _ hw393_0; first | rwa [add_block] at this | exact this) GW395.out)) | (dsimp only; exact Nat.ne_of_lt (Nat.lt_of_lt_of_le (by have := World.block_lt_of_cell? _ _ hw393_0; first | rwa [add_block] at this | exact this) GW395.out))) _).trans (((cell_far (p := ⟨gb395, _, none⟩) (by first | exact Nat.ne_of_lt (Nat.lt_of_lt_of_le (by have := World.block_lt_of_cell? _ _ hw393_0; first | rwa [add_block] at this | exact this) GW395.out) | (rw [add_block]; exact Nat.ne_of_lt (Nat.lt_of_lt_of_le (by have := World.block_lt_of_cell? _ _ hw393_0; first | rwa [add_block] at this | exact this) GW395.out)) | (show (Addr.add _ _).block ≠ _; rw [add_block]; exact Nat.ne_of_lt (Nat.lt_of_lt_of_le (by have := World.block_lt_of_cell? _ _ hw393_0; first | rwa [add_block] at this | exact this) GW395.out)) | (dsimp only; exact Nat.ne_of_lt (Nat.lt_of_lt_of_le (by have := World.block_lt_of_cell? _ _ hw393_0; first | rwa [add_block] at this | exact this) GW395.out))) _).trans (((cell_far (p := ⟨gb395, _, none⟩) (by first | exact Nat.ne_of_lt (Nat.lt_of_lt_of_le (by have := World.block_lt_of_cell? _ _ hw393_0; first | rwa [add_block] at this | exact this) GW395.out) | (rw [add_block]; exact Nat.ne_of_lt (Nat.lt_of_lt_of_le (by have := World.block_lt_of_cell? _ _ hw393_0; first | rwa [add_block] at this | exact this) GW395.out)) | (show (Addr.add _ _).block ≠ _; rw [add_block]; exact Nat.ne_of_lt (Nat.lt_of_lt_of_le (by have := World.block_lt_of_cell? _ _ hw393_0; first | rwa [add_block] at this | exact this) GW395.out)) | (dsimp only; exact Nat.ne_of_lt (Nat.lt_of_lt_of_le (by have := World.block_lt_of_cell? _ _ hw393_0; first | rwa [add_block] at this | exact this) GW395.out))) _).trans (hHeld.2.2.2.2.1)))))))), ((cell_far (p := ⟨gb395, _, none⟩) (by first | exact Nat.ne_of_lt (Nat.lt_of_lt_of_le (by have := World.block_lt_of_cell? _ _ hw393_1; first | rwa [add_block] at this | exact this) GW395.out) | (rw [add_block]; exact Nat.ne_of_lt (Nat.lt_of_lt_of_le (by have := World.block_lt_of_cell? _ _ hw393_1; first | rwa [add_block] at this | exact this) GW395.out)) | (show (Addr.add _ _).block ≠ _; rw [add_block]; exact Nat.ne_of_lt (Nat.lt_of_lt_of_le (by have := World.block_lt_of_cell? _ _ hw393_1; first | rwa [add_block] at this | exact this) GW395.out)) | (dsimp only; exact Nat.ne_of_lt (Nat.lt_of_lt_of_le (by have := World.block_lt_of_cell? _ _ hw393_1; first | rwa [add_block] at this | exact this) GW395.out))) _).trans (((cell_far (p := ⟨gb395, _, none⟩) (by first | exact Nat.ne_of_lt (Nat.lt_of_lt_of_le (by have := World.block_lt_of_cell? _ _ hw393_1; first | rwa [add_block] at this | exact this) GW395.out) | (rw [add_block]; exact Nat.ne_of_lt (Nat.lt_of_lt_of_le (by have := World.block_lt_of_cell? _ _ hw393_1; first | rwa [add_block] at this | exact this) GW395.out)) | (show (Addr.add _ _).block ≠ _; rw [add_block]; exact Nat.ne_of_lt (Nat.lt_of_lt_of_le (by have := World.block_lt_of_cell? _ _ hw393_1; first | rwa [add_block] at this | exact this) GW395.out)) | (dsimp only; exact Nat.ne_of_lt (Nat.lt_of_lt_of_le (by have := World.block_lt_of_cell? _ _ hw393_1; first | rwa [add_block] at this | exact this) GW395.out))) _).trans (((cell_far (p := ⟨gb395, _, none⟩) (by first | exact Nat.ne_of_lt (Nat.lt_of_lt_of_le (by have := World.block_lt_of_cell? _ _ hw393_1; first | rwa [add_block] at this | exact this) GW395.out) | (rw [add_block]; exact Nat.ne_of_lt (Nat.lt_of_lt_of_le (by have := World.block_lt_of_cell? _ _ hw393_1; first | rwa [add_block] at this | exact this) GW395.out)) | (show (Addr.add _ _).block ≠ _; rw [add_block]; exact Nat.ne_of_lt (Nat.lt_of_lt_of_le (by have := World.block_lt_of_cell? _ _ hw393_1; first | rwa [add_block] at this | exact this) GW395.out)) | (dsimp only; exact Nat.ne_of_lt (Nat.lt_of_lt_of_le (by have := World.block_lt_of_cell? _ _ hw393_1; first | rwa [add_block] at this | exact this) GW395.out))) _).trans (((cell_far (p := ⟨gb395, _, none⟩) (by first | exact Nat.ne_of_lt (Nat.lt_of_lt_of_le (by have := World.block_lt_of_cell? _ _ hw393_1; first | rwa [add_block] at this | exact this) GW395.out) | (rw [add_block]; exact Nat.ne_of_lt (Nat.lt_of_lt_of_le (by have := World.block_lt_of_cell? _ _ hw393_1; first | rwa [add_block] at this | exact this) GW395.out)) | (show (Addr.add _ _).block ≠ _; rw [add_block]; exact Nat.ne_of_lt (Nat.lt_of_lt_of_le (by have := World.block_lt_of_cell? _ _ hw393_1; first | rwa [add_block] at this | exact this) GW395.out)) | (dsimp only; exact Nat.ne_of_lt (Nat.lt_of_lt_of_le (by have := World.block_lt_of_cell? _ _ hw393_1; first | rwa [add_block] at this | exact this) GW395.out))) _).trans (hHeld.2.2.2.2.2.1)))))))), ((cell_far (p := ⟨gb395, _, none⟩) (by first | exact Nat.ne_of_lt (Nat.lt_of_lt_of_le (by have := World.block_lt_of_cell? _ _ hw393_2; first | rwa [add_block] at this | exact this) GW395.out) | (rw [add_block]; exact Nat.ne_of_lt (Nat.lt_of_lt_of_le (by have := World.block_lt_of_cell? _ _ hw393_2; first | rwa [add_block] at this | exact this) GW395.out)) | (show (Addr.add _ _).block ≠ _; rw [add_block]; exact Nat.ne_of_lt (Nat.lt_of_lt_of_le (by have := World.block_lt_of_cell? _ _ hw393_2; first | rwa [add_block] at this | exact this) GW395.out)) | (dsimp only; exact Nat.ne_of_lt (Nat.lt_of_lt_of_le (by have := World.block_lt_of_cell? _ _ hw393_2; first | rwa [add_block] at this | exact this) GW395.out))) _).trans (((cell_far (p := ⟨gb395, _, none⟩) (by first | exact Nat.ne_of_lt (Nat.lt_of_lt_of_le (by have := World.block_lt_of_cell? _ _ hw393_2; first | rwa [add_block] at this | exact this) GW395.out) | (rw [add_block]; exact Nat.ne_of_lt (Nat.lt_of_lt_of_le (by have := World.block_lt_of_cell? _ _ hw393_2; first | rwa [add_block] at this | exact this) GW395.out)) | (show (Addr.add _ _).block ≠ _; rw [add_block]; exact Nat.ne_of_lt (Nat.lt_of_lt_of_le (by have := World.block_lt_of_cell? _ _ hw393_2; first | rwa [add_block] at this | exact this) GW395.out)) | (dsimp only; exact Nat.ne_of_lt (Nat.lt_of_lt_of_le (by have := World.block_lt_of_cell? _ _ hw393_2; first | rwa [add_block] at this | exact this) GW395.out))) _).trans (((cell_far (p := ⟨gb395, _, none⟩) (by first | exact Nat.ne_of_lt (Nat.lt_of_lt_of_le (by have := World.block_lt_of_cell? _ _ hw393_2; first | rwa [add_block] at this | exact this) GW395.out) | (rw [add_block]; exact Nat.ne_of_lt (Nat.lt_of_lt_of_le (by have := World.block_lt_of_cell? _ _ hw393_2; first | rwa [add_block] at this | exact this) GW395.out)) | (show (Addr.add _ _).block ≠ _; rw [add_block]; exact Nat.ne_of_lt (Nat.lt_of_lt_of_le (by have := World.block_lt_of_cell? _ _ hw393_2; first | rwa [add_block] at this | exact this) GW395.out)) | (dsimp only; exact Nat.ne_of_lt (Nat.lt_of_lt_of_le (by have := World.block_lt_of_cell? _ _ hw393_2; first | rwa [add_block] at this | exact this) GW395.out))) _).trans (((cell_far (p := ⟨gb395, _, none⟩) (by first | exact Nat.ne_of_lt (Nat.lt_of_lt_of_le (by have := World.block_lt_of_cell? _ _ hw393_2; first | rwa [add_block] at this | exact this) GW395.out) | (rw [add_block]; exact Nat.ne_of_lt (Nat.lt_of_lt_of_le (by have := World.block_lt_of_cell? _ _ hw393_2; first | rwa [add_block] at this | exact this) GW395.out)) | (show (Addr.add _ _).block ≠ _; rw [add_block]; exact Nat.ne_of_lt (Nat.lt_of_lt_of_le (by have := World.block_lt_of_cell? _ _ hw393_2; first | rwa [add_block] at this | exact this) GW395.out)) | (dsimp only; exact Nat.ne_of_lt (Nat.lt_of_lt_of_le (by have := World.block_lt_of_cell? _ _ hw393_2; first | rwa [add_block] at this | exact this) GW395.out))) _).trans (hHeld.2.2.2.2.2.2.1)))))))), ((cell_far (p := ⟨gb395, _, none⟩) (by first | exact Nat.ne_of_lt (Nat.lt_of_lt_of_le (by have := World.block_lt_of_cell? _ _ hw393_3; first | rwa [add_block] at this | exact this) GW395.out) | (rw [add_block]; exact Nat.ne_of_lt (Nat.lt_of_lt_of_le (by have := World.block_lt_of_cell? _ _ hw393_3; first | rwa [add_block] at this | exact this) GW395.out)) | (show (Addr.add _ _).block ≠ _; rw [add_block]; exact Nat.ne_of_lt (Nat.lt_of_lt_of_le (by have := World.block_lt_of_cell? _ _ hw393_3; first | rwa [add_block] at this | exact this) GW395.out)) | (dsimp only; exact Nat.ne_of_lt (Nat.lt_of_lt_of_le (by have := World.block_lt_of_cell? _ _ hw393_3; first | rwa [add_block] at this | exact this) GW395.out))) _).trans (((cell_far (p := ⟨gb395, _, none⟩) (by first | exact Nat.ne_of_lt (Nat.lt_of_lt_of_le (by have := World.block_lt_of_cell? _ _ hw393_3; first | rwa [add_block] at this | exact this) GW395.out) | (rw [add_block]; exact Nat.ne_of_lt (Nat.lt_of_lt_of_le (by have := World.block_lt_of_cell? _ _ hw393_3; first | rwa [add_block] at this | exact this) GW395.out)) | (show (Addr.add _ _).block ≠ _; rw [add_block]; exact Nat.ne_of_lt (Nat.lt_of_lt_of_le (by have := World.block_lt_of_cell? _ _ hw393_3; first | rwa [add_block] at this | exact this) GW395.out)) | (dsimp only; exact Nat.ne_of_lt (Nat.lt_of_lt_of_le (by have := World.block_lt_of_cell? _ _ hw393_3; first | rwa [add_block] at this | exact this) GW395.out))) _).trans (((cell_far (p := ⟨gb395, _, none⟩) (by first | exact Nat.ne_of_lt (Nat.lt_of_lt_of_le (by have := World.block_lt_of_cell? _ _ hw393_3; first | rwa [add_block] at this | exact this) GW395.out) | (rw [add_block]; exact Nat.ne_of_lt (Nat.lt_of_lt_of_le (by have := World.block_lt_of_cell? _ _ hw393_3; first | rwa [add_block] at this | exact this) GW395.out)) | (show (Addr.add _ _).block ≠ _; rw [add_block]; exact Nat.ne_of_lt (Nat.lt_of_lt_of_le (by have := World.block_lt_of_cell? _ _ hw393_3; first | rwa [add_block] at this | exact this) GW395.out)) | (dsimp only; exact Nat.ne_of_lt (Nat.lt_of_lt_of_le (by have := World.block_lt_of_cell? _ _ hw393_3; first | rwa [add_block] at this | exact this) GW395.out))) _).trans (((cell_far (p := ⟨gb395, _, none⟩) (by first | exact Nat.ne_of_lt (Nat.lt_of_lt_of_le (by have := World.block_lt_of_cell? _ _ hw393_3; first | rwa [add_block] at this | exact this) GW395.out) | (rw [add_block]; exact Nat.ne_of_lt (Nat.lt_of_lt_of_le (by have := World.block_lt_of_cell? _ _ hw393_3; first | rwa [add_block] at this | exact this) GW395.out)) | (show (Addr.add _ _).block ≠ _; rw [add_block]; exact Nat.ne_of_lt (Nat.lt_of_lt_of_le (by have := World.block_lt_of_cell? _ _ hw393_3; first | rwa [add_block] at this | exact this) GW395.out)) | (dsimp only; exact Nat.ne_of_lt (Nat.lt_of_lt_of_le (by have := World.block_lt_of_cell? _ _ hw393_3; first | rwa [add_block] at this | exact this) GW395.out))) _).trans (hHeld.2.2.2.2.2.2.2))))))))⟩ (fun hHeld => ?_)
              clear hK K
              refine done_ (done_of HT_.out (by kernel_rfl)) ?_
              go_upto_if 30 with (fail)
              go_cut [] (fun wc => ∃ (kq : Nat) (x395003_7 : Int) (x396003_7 : Int), Aside0 (salchowref09_Same.j1 kq l0 l1 a2 x7_1 ((rd_T46 l0 x7_1).f0) ((rd_T46 l0 x7_1).f1) ((rd_T46 l0 x7_1).f2) x395003_7 ((rd_T46 l1 x7_1).f0) ((rd_T46 l1 x7_1).f1) ((rd_T46 l1 x7_1).f2) x396003_7 = some r) ∧ Aside0 (kq ≤ k1) ∧ Aside0 (wc.heap[gb394]? = some (.cells #[.int .i64 ((rd_T46 l0 x7_1).f0), .string ((rd_T46 l0 x7_1).f1), .int .i64 ((rd_T46 l0 x7_1).f2), .int .i64 x395003_7] 46 (0, 0))) ∧ Aside0 (wc.heap[gb395]? = some (.cells #[.int .i64 ((rd_T46 l1 x7_1).f0), .string ((rd_T46 l1 x7_1).f1), .int .i64 ((rd_T46 l1 x7_1).f2), .int .i64 x396003_7] 46 (0, 0))) ∧ Aside0 (Below w.heap.size w wc))
              case first =>
                have H := HC8.out
                clear HC8
                by_cases c21 : a2 = true
                · subst c21
                  have H1 : (salchowref09_Same.j1 k1 l0 l1 true x7_1 ((rd_T46 l0 x7_1).f0) ((rd_T46 l0 x7_1).f1) ((rd_T46 l0 x7_1).f2) ((rd_T46 l0 x7_1).f3) ((rd_T46 l1 x7_1).f0) ((rd_T46 l1 x7_1).f1) ((rd_T46 l1 x7_1).f2) ((rd_T46 l1 x7_1).f3)) = some r := by rw [if_pos rfl] at H; exact H
                  clear H
                  have H := H1
                  clear H1
                  have H' := Aside0.mk H
                  clear H
                  go_wp2
                  go_meet
                  case rel => exact ⟨_, ((rd_T46 l0 x7_1).f3), ((rd_T46 l1 x7_1).f3), H', ⟨by have := HK1.out; first | omega | exact Nat.le_refl _⟩, ⟨by (with_reducible repeat (first | refine blk_drewN ?_ _ | refine blk_drew ?_ | refine blk_alloc ?_ _)); refine blk_far ?_ NB394_395.out _; (with_reducible repeat (first | refine blk_drewN ?_ _ | refine blk_drew ?_ | refine blk_alloc ?_ _)); refine blk_far ?_ NB394_395.out _; (with_reducible repeat (first | refine blk_drewN ?_ _ | refine blk_drew ?_ | refine blk_alloc ?_ _)); refine blk_far ?_ NB394_395.out _; (with_reducible repeat (first | refine blk_drewN ?_ _ | refine blk_drew ?_ | refine blk_alloc ?_ _)); refine blk_far ?_ NB394_395.out _; (with_reducible repeat (first | refine blk_drewN ?_ _ | refine blk_drew ?_ | refine blk_alloc ?_ _)); refine blk_put (cs := #[.int .i64 ((rd_T46 l0 x7_1).f0), .string ((rd_T46 l0 x7_1).f1), .int .i64 ((rd_T46 l0 x7_1).f2), .int .i64 0]) ?_ 3 _ rfl; (with_reducible repeat (first | refine blk_drewN ?_ _ | refine blk_drew ?_ | refine blk_alloc ?_ _)); refine blk_put (cs := #[.int .i64 ((rd_T46 l0 x7_1).f0), .string ((rd_T46 l0 x7_1).f1), .int .i64 0, .int .i64 0]) ?_ 2 _ rfl; (with_reducible repeat (first | refine blk_drewN ?_ _ | refine blk_drew ?_ | refine blk_alloc ?_ _)); refine blk_put (cs := #[.int .i64 ((rd_T46 l0 x7_1).f0), .string (⟨#[]⟩ : ByteArray), .int .i64 0, .int .i64 0]) ?_ 1 _ rfl; (with_reducible repeat (first | refine blk_drewN ?_ _ | refine blk_drew ?_ | refine blk_alloc ?_ _)); refine blk_put (cs := #[.int .i64 0, .string (⟨#[]⟩ : ByteArray), .int .i64 0, .int .i64 0]) ?_ 0 _ rfl; (with_reducible repeat (first | refine blk_drewN ?_ _ | refine blk_drew ?_ | refine blk_alloc ?_ _)); exact BK394.out⟩, ⟨by (with_reducible repeat (first | refine blk_drewN ?_ _ | refine blk_drew ?_ | refine blk_alloc ?_ _)); refine blk_put (cs := #[.int .i64 ((rd_T46 l1 x7_1).f0), .string ((rd_T46 l1 x7_1).f1), .int .i64 ((rd_T46 l1 x7_1).f2), .int .i64 0]) ?_ 3 _ rfl; (with_reducible repeat (first | refine blk_drewN ?_ _ | refine blk_drew ?_ | refine blk_alloc ?_ _)); refine blk_put (cs := #[.int .i64 ((rd_T46 l1 x7_1).f0), .string ((rd_T46 l1 x7_1).f1), .int .i64 0, .int .i64 0]) ?_ 2 _ rfl; (with_reducible repeat (first | refine blk_drewN ?_ _ | refine blk_drew ?_ | refine blk_alloc ?_ _)); refine blk_put (cs := #[.int .i64 ((rd_T46 l1 x7_1).f0), .string (⟨#[]⟩ : ByteArray), .int .i64 0, .int .i64 0]) ?_ 1 _ rfl; (with_reducible repeat (first | refine blk_drewN ?_ _ | refine blk_drew ?_ | refine blk_alloc ?_ _)); refine blk_put (cs := #[.int .i64 0, .string (⟨#[]⟩ : ByteArray), .int .i64 0, .int .i64 0]) ?_ 0 _ rfl; (with_reducible repeat (first | refine blk_drewN ?_ _ | refine blk_drew ?_ | refine blk_alloc ?_ _)); refine blk_far ?_ NB395_394.out _; (with_reducible repeat (first | refine blk_drewN ?_ _ | refine blk_drew ?_ | refine blk_alloc ?_ _)); refine blk_far ?_ NB395_394.out _; (with_reducible repeat (first | refine blk_drewN ?_ _ | refine blk_drew ?_ | refine blk_alloc ?_ _)); refine blk_far ?_ NB395_394.out _; (with_reducible repeat (first | refine blk_drewN ?_ _ | refine blk_drew ?_ | refine blk_alloc ?_ _)); refine blk_far ?_ NB395_394.out _; (with_reducible repeat (first | refine blk_drewN ?_ _ | refine blk_drew ?_ | refine blk_alloc ?_ _)); exact BK395.out⟩, ⟨bl2_ HB.out GE394.out GE395.out⟩⟩
                · replace c21 := Bool.eq_false_iff.mpr c21
                  subst c21
                  have H1 : (salchowref09_Same.j1 k1 l0 l1 false x7_1 ((rd_T46 l0 x7_1).f0) ((rd_T46 l0 x7_1).f1) ((rd_T46 l0 x7_1).f2) 0 ((rd_T46 l1 x7_1).f0) ((rd_T46 l1 x7_1).f1) ((rd_T46 l1 x7_1).f2) 0) = some r := by rw [if_neg (show ¬ (false = true) by decide)] at H; exact H
                  clear H
                  have H := H1
                  clear H1
                  have H' := Aside0.mk H
                  clear H
                  have hnb22 := NB394_395.out
                  have hnc22 := NB395_394.out
                  have hcz23_0 : w12.cell? ⟨gb394, 0, none⟩ = some (.int .i64 0) := (blk_cell BK394.out 0).trans rfl
                  have hcz23_1 : w12.cell? ⟨gb394, 1, none⟩ = some (.string (⟨#[]⟩ : ByteArray)) := (blk_cell BK394.out 1).trans rfl
                  have hcz23_2 : w12.cell? ⟨gb394, 2, none⟩ = some (.int .i64 0) := (blk_cell BK394.out 2).trans rfl
                  have hcz23_3 : w12.cell? ⟨gb394, 3, none⟩ = some (.int .i64 0) := (blk_cell BK394.out 3).trans rfl
                  have hfz23_0 := blk_frozen BK394.out 0
                  have hfz23_1 := blk_frozen BK394.out 1
                  have hfz23_2 := blk_frozen BK394.out 2
                  have hfz23_3 := blk_frozen BK394.out 3
                  have hcz24_0 : w12.cell? ⟨gb395, 0, none⟩ = some (.int .i64 0) := (blk_cell BK395.out 0).trans rfl
                  have hcz24_1 : w12.cell? ⟨gb395, 1, none⟩ = some (.string (⟨#[]⟩ : ByteArray)) := (blk_cell BK395.out 1).trans rfl
                  have hcz24_2 : w12.cell? ⟨gb395, 2, none⟩ = some (.int .i64 0) := (blk_cell BK395.out 2).trans rfl
                  have hcz24_3 : w12.cell? ⟨gb395, 3, none⟩ = some (.int .i64 0) := (blk_cell BK395.out 3).trans rfl
                  have hfz24_0 := blk_frozen BK395.out 0
                  have hfz24_1 := blk_frozen BK395.out 1
                  have hfz24_2 := blk_frozen BK395.out 2
                  have hfz24_3 := blk_frozen BK395.out 3
                  go_wp2
                  go_meet
                  case rel => exact ⟨_, (0), (0), H', ⟨by have := HK1.out; first | omega | exact Nat.le_refl _⟩, ⟨by (with_reducible repeat (first | refine blk_drewN ?_ _ | refine blk_drew ?_ | refine blk_alloc ?_ _)); refine blk_far ?_ NB394_395.out _; (with_reducible repeat (first | refine blk_drewN ?_ _ | refine blk_drew ?_ | refine blk_alloc ?_ _)); refine blk_put (cs := #[.int .i64 ((rd_T46 l0 x7_1).f0), .string ((rd_T46 l0 x7_1).f1), .int .i64 ((rd_T46 l0 x7_1).f2), .int .i64 ((rd_T46 l0 x7_1).f3)]) ?_ 3 _ rfl; (with_reducible repeat (first | refine blk_drewN ?_ _ | refine blk_drew ?_ | refine blk_alloc ?_ _)); refine blk_far ?_ NB394_395.out _; (with_reducible repeat (first | refine blk_drewN ?_ _ | refine blk_drew ?_ | refine blk_alloc ?_ _)); refine blk_far ?_ NB394_395.out _; (with_reducible repeat (first | refine blk_drewN ?_ _ | refine blk_drew ?_ | refine blk_alloc ?_ _)); refine blk_far ?_ NB394_395.out _; (with_reducible repeat (first | refine blk_drewN ?_ _ | refine blk_drew ?_ | refine blk_alloc ?_ _)); refine blk_far ?_ NB394_395.out _; (with_reducible repeat (first | refine blk_drewN ?_ _ | refine blk_drew ?_ | refine blk_alloc ?_ _)); refine blk_put (cs := #[.int .i64 ((rd_T46 l0 x7_1).f0), .string ((rd_T46 l0 x7_1).f1), .int .i64 ((rd_T46 l0 x7_1).f2), .int .i64 0]) ?_ 3 _ rfl; (with_reducible repeat (first | refine blk_drewN ?_ _ | refine blk_drew ?_ | refine blk_alloc ?_ _)); refine blk_put (cs := #[.int .i64 ((rd_T46 l0 x7_1).f0), .string ((rd_T46 l0 x7_1).f1), .int .i64 0, .int .i64 0]) ?_ 2 _ rfl; (with_reducible repeat (first | refine blk_drewN ?_ _ | refine blk_drew ?_ | refine blk_alloc ?_ _)); refine blk_put (cs := #[.int .i64 ((rd_T46 l0 x7_1).f0), .string (⟨#[]⟩ : ByteArray), .int .i64 0, .int .i64 0]) ?_ 1 _ rfl; (with_reducible repeat (first | refine blk_drewN ?_ _ | refine blk_drew ?_ | refine blk_alloc ?_ _)); refine blk_put (cs := #[.int .i64 0, .string (⟨#[]⟩ : ByteArray), .int .i64 0, .int .i64 0]) ?_ 0 _ rfl; (with_reducible repeat (first | refine blk_drewN ?_ _ | refine blk_drew ?_ | refine blk_alloc ?_ _)); exact BK394.out⟩, ⟨by (with_reducible repeat (first | refine blk_drewN ?_ _ | refine blk_drew ?_ | refine blk_alloc ?_ _)); refine blk_put (cs := #[.int .i64 ((rd_T46 l1 x7_1).f0), .string ((rd_T46 l1 x7_1).f1), .int .i64 ((rd_T46 l1 x7_1).f2), .int .i64 ((rd_T46 l1 x7_1).f3)]) ?_ 3 _ rfl; (with_reducible repeat (first | refine blk_drewN ?_ _ | refine blk_drew ?_ | refine blk_alloc ?_ _)); refine blk_far ?_ NB395_394.out _; (with_reducible repeat (first | refine blk_drewN ?_ _ | refine blk_drew ?_ | refine blk_alloc ?_ _)); refine blk_put (cs := #[.int .i64 ((rd_T46 l1 x7_1).f0), .string ((rd_T46 l1 x7_1).f1), .int .i64 ((rd_T46 l1 x7_1).f2), .int .i64 0]) ?_ 3 _ rfl; (with_reducible repeat (first | refine blk_drewN ?_ _ | refine blk_drew ?_ | refine blk_alloc ?_ _)); refine blk_put (cs := #[.int .i64 ((rd_T46 l1 x7_1).f0), .string ((rd_T46 l1 x7_1).f1), .int .i64 0, .int .i64 0]) ?_ 2 _ rfl; (with_reducible repeat (first | refine blk_drewN ?_ _ | refine blk_drew ?_ | refine blk_alloc ?_ _)); refine blk_put (cs := #[.int .i64 ((rd_T46 l1 x7_1).f0), .string (⟨#[]⟩ : ByteArray), .int .i64 0, .int .i64 0]) ?_ 1 _ rfl; (with_reducible repeat (first | refine blk_drewN ?_ _ | refine blk_drew ?_ | refine blk_alloc ?_ _)); refine blk_put (cs := #[.int .i64 0, .string (⟨#[]⟩ : ByteArray), .int .i64 0, .int .i64 0]) ?_ 0 _ rfl; (with_reducible repeat (first | refine blk_drewN ?_ _ | refine blk_drew ?_ | refine blk_alloc ?_ _)); refine blk_far ?_ NB395_394.out _; (with_reducible repeat (first | refine blk_drewN ?_ _ | refine blk_drew ?_ | refine blk_alloc ?_ _)); refine blk_far ?_ NB395_394.out _; (with_reducible repeat (first | refine blk_drewN ?_ _ | refine blk_drew ?_ | refine blk_alloc ?_ _)); refine blk_far ?_ NB395_394.out _; (with_reducible repeat (first | refine blk_drewN ?_ _ | refine blk_drew ?_ | refine blk_alloc ?_ _)); refine blk_far ?_ NB395_394.out _; (with_reducible repeat (first | refine blk_drewN ?_ _ | refine blk_drew ?_ | refine blk_alloc ?_ _)); exact BK395.out⟩, ⟨bl2_ HB.out GE394.out GE395.out⟩⟩
              case rest =>
                clear HC8
                try clear c1
                try clear c2
                try clear p2
                try clear c3
                try clear p3
                try clear q3
                try clear hx3
                try clear c4
                try clear c4b0
                try clear c4b1
                try clear c4b2
                try clear c5
                try clear c5b0
                try clear c6
                try clear c6b0
                try clear c7
                try clear c7b0
                try clear c21
                try clear c22
                try clear hcz23_0
                try clear hcz23_1
                try clear hcz23_2
                try clear hcz23_3
                try clear hcz24_0
                try clear hcz24_1
                try clear hcz24_2
                try clear hcz24_3
                try clear hfz23_0
                try clear hfz23_1
                try clear hfz23_2
                try clear hfz23_3
                try clear hfz24_0
                try clear hfz24_1
                try clear hfz24_2
                try clear hfz24_3
                try clear hx392_0
                try clear hx392_1
                try clear hx392_2
                try clear hx392_3
                try clear hx393_0
                try clear hx393_1
                try clear hx393_2
                try clear hx393_3
                try clear p2
                try clear p392
                try clear p393
                try clear q392
                try clear q393
                obtain ⟨kq, x395003_7, x396003_7, HA, HJ7, BK394, BK395, HB⟩ := hcut
                cases kq with
                | zero => exact absurd HA.out (by simp [salchowref09_Same.j1])
                | succ kj7 =>
                  have H := HA.out
                  clear HA
                  simp only [salchowref09_Same.j1] at H
                  by_cases c25 : (!(((rd_T46 l0 x7_1).f0) == ((rd_T46 l1 x7_1).f0)) || (!(((rd_T46 l0 x7_1).f1).toList == ((rd_T46 l1 x7_1).f1).toList) || (!(((rd_T46 l0 x7_1).f2) == ((rd_T46 l1 x7_1).f2)) || (!(x395003_7 == x396003_7))))) = true
                  · rw [if_pos c25] at H
                    have c25b0 : (!(((rd_T46 l0 x7_1).f0) == ((rd_T46 l1 x7_1).f0)) || (!(((rd_T46 l0 x7_1).f1).toList == ((rd_T46 l1 x7_1).f1).toList) || (!(((rd_T46 l0 x7_1).f2) == ((rd_T46 l1 x7_1).f2)) || (!(x395003_7 == x396003_7))))) = true := c25
                    clear c25
                    obtain rfl := Option.some.inj H
                    have hnb26 := NB394_395.out
                    have hnc26 := NB395_394.out
                    have hcz27_0 : wc.cell? ⟨gb394, 0, none⟩ = some (.int .i64 ((rd_T46 l0 x7_1).f0)) := (blk_cell BK394.out 0).trans rfl
                    have hcz27_1 : wc.cell? ⟨gb394, 1, none⟩ = some (.string ((rd_T46 l0 x7_1).f1)) := (blk_cell BK394.out 1).trans rfl
                    have hcz27_2 : wc.cell? ⟨gb394, 2, none⟩ = some (.int .i64 ((rd_T46 l0 x7_1).f2)) := (blk_cell BK394.out 2).trans rfl
                    have hcz27_3 : wc.cell? ⟨gb394, 3, none⟩ = some (.int .i64 x395003_7) := (blk_cell BK394.out 3).trans rfl
                    have hfz27_0 := blk_frozen BK394.out 0
                    have hfz27_1 := blk_frozen BK394.out 1
                    have hfz27_2 := blk_frozen BK394.out 2
                    have hfz27_3 := blk_frozen BK394.out 3
                    have hcz28_0 : wc.cell? ⟨gb395, 0, none⟩ = some (.int .i64 ((rd_T46 l1 x7_1).f0)) := (blk_cell BK395.out 0).trans rfl
                    have hcz28_1 : wc.cell? ⟨gb395, 1, none⟩ = some (.string ((rd_T46 l1 x7_1).f1)) := (blk_cell BK395.out 1).trans rfl
                    have hcz28_2 : wc.cell? ⟨gb395, 2, none⟩ = some (.int .i64 ((rd_T46 l1 x7_1).f2)) := (blk_cell BK395.out 2).trans rfl
                    have hcz28_3 : wc.cell? ⟨gb395, 3, none⟩ = some (.int .i64 x396003_7) := (blk_cell BK395.out 3).trans rfl
                    have hfz28_0 := blk_frozen BK395.out 0
                    have hfz28_1 := blk_frozen BK395.out 1
                    have hfz28_2 := blk_frozen BK395.out 2
                    have hfz28_3 := blk_frozen BK395.out 3
                    go_wp2
                    go_ret
                    exact ⟨er_, bl2_ HB.out GE394.out GE395.out⟩
                  · rw [if_neg c25] at H
                    have c25b0 : (!(((rd_T46 l0 x7_1).f0) == ((rd_T46 l1 x7_1).f0)) || (!(((rd_T46 l0 x7_1).f1).toList == ((rd_T46 l1 x7_1).f1).toList) || (!(((rd_T46 l0 x7_1).f2) == ((rd_T46 l1 x7_1).f2)) || (!(x395003_7 == x396003_7))))) = false := by simpa using c25
                    clear c25
                    have H' := Aside0.mk H
                    clear H
                    have hnb29 := NB394_395.out
                    have hnc29 := NB395_394.out
                    have hcz30_0 : wc.cell? ⟨gb394, 0, none⟩ = some (.int .i64 ((rd_T46 l0 x7_1).f0)) := (blk_cell BK394.out 0).trans rfl
                    have hcz30_1 : wc.cell? ⟨gb394, 1, none⟩ = some (.string ((rd_T46 l0 x7_1).f1)) := (blk_cell BK394.out 1).trans rfl
                    have hcz30_2 : wc.cell? ⟨gb394, 2, none⟩ = some (.int .i64 ((rd_T46 l0 x7_1).f2)) := (blk_cell BK394.out 2).trans rfl
                    have hcz30_3 : wc.cell? ⟨gb394, 3, none⟩ = some (.int .i64 x395003_7) := (blk_cell BK394.out 3).trans rfl
                    have hfz30_0 := blk_frozen BK394.out 0
                    have hfz30_1 := blk_frozen BK394.out 1
                    have hfz30_2 := blk_frozen BK394.out 2
                    have hfz30_3 := blk_frozen BK394.out 3
                    have hcz31_0 : wc.cell? ⟨gb395, 0, none⟩ = some (.int .i64 ((rd_T46 l1 x7_1).f0)) := (blk_cell BK395.out 0).trans rfl
                    have hcz31_1 : wc.cell? ⟨gb395, 1, none⟩ = some (.string ((rd_T46 l1 x7_1).f1)) := (blk_cell BK395.out 1).trans rfl
                    have hcz31_2 : wc.cell? ⟨gb395, 2, none⟩ = some (.int .i64 ((rd_T46 l1 x7_1).f2)) := (blk_cell BK395.out 2).trans rfl
                    have hcz31_3 : wc.cell? ⟨gb395, 3, none⟩ = some (.int .i64 x396003_7) := (blk_cell BK395.out 3).trans rfl
                    have hfz31_0 := blk_frozen BK395.out 0
                    have hfz31_1 := blk_frozen BK395.out 1
                    have hfz31_2 := blk_frozen BK395.out 2
                    have hfz31_3 := blk_frozen BK395.out 3
                    go_wp2
                    go_roundg kj7
                    case measure => have := HK1.out; have := HJ7.out; omega
                    case rel => exact ⟨(wrap64 (x7_1 + 1)), (by first | rfl | (simp; done) | (simp [*]; done) | (simp <;> rfl)), H', ⟨by have := HK1.out; have := HJ7.out; omega⟩, ⟨bl2_ HB.out GE394.out GE395.out⟩⟩
            · rw [if_neg c7] at H
              exact absurd H (by simp)
          · rw [if_neg c6] at H
            exact absurd H (by simp)
        · rw [if_neg c5] at H
          have c5b0 : decide (x7_1 < (l0.length : Int)) = false := decide_eq_false c5
          clear c5
          obtain rfl := Option.some.inj H
          go_wp2
          go_ret
          exact ⟨er_, bl_ HB.out⟩
  · rw [if_neg c4] at H
    have c4b0 : ((l0.length : Int) == (l1.length : Int)) = false := beq_eq_false_iff_ne.mpr c4
    have c4b1 : ((l0.length : Int) != (l1.length : Int)) = true := bne_iff_ne.mpr c4
    have c4b2 : (l0.length == l1.length) = false := by first | simpa using c4 | (simp at c4 ⊢; omega)
    obtain rfl := Option.some.inj H
    go_enter Tryd.func34, Tryd.ntmps34
    go_wp2
    go_ret
    exact ⟨er_, bl_ HB.out⟩
end Go.Proofs.YtkifdadhojbohaaDoor.Pr
namespace Go.Proofs.YtkifdadhojbohaaDoor.Pu
open Go.RowKit Go.Proofs.YtkifdadhojbohaaDoor Go.Proofs.YtkifdadhojbohaaDoor.Pr Go.Proofs.YtkifdadhojbohaaDoorW.PrintWords Go.Proofs.YtkifdadhojbohaaDoorW.PrintLast
def fixT (p : Bool) (x : S46) : S46 := if p = true then x else { x with f3 := 0 }
theorem same_f (p : Bool) (xs ys : List S46) (h : xs.map (fixT p) = ys.map (fixT p)) (hn : xs.length ≤ 1000000) : Ev (fun k => salchowref09_Same.f k xs ys p) true := by
  have hlen : xs.length = ys.length := by
    have := congrArg List.length h
    simpa using this
  have hat : ∀ i : Nat, fixT p (rd_T46 xs (i : Int)) = fixT p (rd_T46 ys (i : Int)) := by
    intro i
    have e : ∀ l : List S46, fixT p (rd_T46 l (i : Int)) = (l.map (fixT p)).getD i (fixT p z46) := by
      intro l
      simp only [rd_T46, Int.toNat_natCast, List.getD_eq_getElem?_getD, List.getElem?_map]
      cases l[i]? <;> rfl
    rw [e, e, h]
  have loop : ∀ (d i : Nat), i ≤ xs.length → xs.length - i = d → Ev (fun k => salchowref09_Same.l0 k xs ys p (i : Int)) true := by
    intro d
    induction d with
    | zero =>
      intro i hi hd
      refine Ev.succ ?_
      simp only [salchowref09_Same.l0]
      exact Ev.ifn (by omega) (Ev.now _)
    | succ d ih =>
      intro i hi hd
      have hi2 := ih (i + 1) (by omega) (by omega)
      have ha := hat i
      refine Ev.succ ?_
      simp only [salchowref09_Same.l0]
      refine Ev.ifp (by omega) (Ev.ifp (by omega) (Ev.ifp (by omega) ?_))
      by_cases hp : p = true
      · subst hp
        refine Ev.ifp rfl (Ev.succ ?_)
        simp only [salchowref09_Same.j1]
        simp only [fixT, if_true] at ha
        rw [ha, wrap_nat i (by omega)]
        exact Ev.ifn (by simp) hi2
      · rw [Bool.not_eq_true] at hp
        subst hp
        refine Ev.ifn (by decide) (Ev.succ ?_)
        simp only [salchowref09_Same.j1]
        simp only [fixT, Bool.false_eq_true, if_false, S46.mk.injEq] at ha
        obtain ⟨e0, e1, e2, _⟩ := ha
        rw [e0, e1, e2, wrap_nat i (by omega)]
        exact Ev.ifn (by simp) hi2
  unfold salchowref09_Same.f
  exact Ev.ifp (by omega) (loop _ 0 (by omega) rfl)
end Go.Proofs.YtkifdadhojbohaaDoor.Pu
