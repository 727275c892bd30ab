/- Joined out of the texts of this proof that bear the names PrF42 PrF33 PuE PuF PuG: what each shows stands over it there. -/
import Derived.Test.YtkifdadhojbohaaDoorYb1
import Derived.Test.YtkifdadhojbohaaDoorYf1
import Derived.Test.YtkifdadhojbohaaDoorYc1
import Derived.Test.YtkifdadhojbohaaDoorYh1
import Derived.Test.YtkifdadhojbohaaDoorYc2
set_option linter.unusedVariables false
set_option linter.unusedSimpArgs false
namespace Go.Proofs.YtkifdadhojbohaaDoor.Pr
open Go.Proofs.YtkifdadhojbohaaDoor
open Go.RowKit Go.Proofs.YtkifdadhojbohaaDoorW.PrintWords Go.Proofs.YtkifdadhojbohaaDoorW.PrintLast Go.Proofs.YtkifdadhojbohaaDoorW.PrintMore
attribute [local go_sem] max2_int min2_int max_two min_two max_three min_three max_four min_four   -- for this text's walks alone
set_option linter.unusedVariables false
set_option linter.unusedSimpArgs false
/-! ### salchowref09_Next: function 42 -/
def salchowref09_Next.j0 : Nat → ByteArray → Int → Bool → Option (Int × ByteArray × Int × Int × Int × Int × Int)
  | 0, _, _, _ => none
  | k + 1, x0, x1, x23 => if x23 = true then (some (0, (⟨#[]⟩ : ByteArray), 0, 0, 0, 1, 0)) else ((salchowref09_skip.f k x0 x1).bind fun t222 => ((salchowref09_Token.f k x0 t222).bind fun bt223 => (if bt223.2.2.2.2.2 = 0 then (some (bt223.1, bt223.2.1, bt223.2.2.1, bt223.2.2.2.1, bt223.2.2.2.2.1, 0, 0)) else (some (0, (⟨#[]⟩ : ByteArray), 0, 0, 0, bt223.2.2.2.2.2, t222)))))
def salchowref09_Next.f (k : Nat) (a0 : ByteArray) (a1 : Int) : Option (Int × ByteArray × Int × Int × Int × Int × Int) := if (a0.size : Int) > 65536 then (some (0, (⟨#[]⟩ : ByteArray), 0, 0, 0, 6, 65536)) else (if a1 < 0 then (salchowref09_Next.j0 k a0 a1 true) else (salchowref09_Next.j0 k a0 a1 (decide (a1 > (a0.size : Int)))))
theorem salchowref09_Next.mono_l : ∀ k, (∀ y0 y1 y2, LeO (salchowref09_Next.j0 k y0 y1 y2) (salchowref09_Next.j0 (k + 1) y0 y1 y2))
  | 0 => fun _ _ _ r h => by simp [salchowref09_Next.j0] at h
  | k + 1 => by
    have ih0 := salchowref09_Next.mono_l k
    · intro y0 y1 y2
      unfold salchowref09_Next.j0
      repeat' first
      | (with_reducible exact ih0 _ _ _)
      | (with_reducible exact salchowref09_Token.mono _ _ _)
      | (with_reducible exact salchowref09_skip.mono _ _ _)
      | (with_reducible exact LeO.refl _)
      | (with_reducible exact LeO.none _)
      | (with_reducible refine LeO.ite ?_ ?_)
      | (with_reducible refine LeO.bind ?_ (fun _ => ?_))
      | exact ih0 _ _ _
      | exact salchowref09_Token.mono _ _ _
      | exact salchowref09_skip.mono _ _ _
      | exact LeO.none _
      | refine LeO.ite ?_ ?_
      | refine LeO.bind ?_ (fun _ => ?_)
theorem salchowref09_Next.mono : ∀ a0 a1 k, LeO (salchowref09_Next.f k a0 a1) (salchowref09_Next.f (k + 1) a0 a1) := by
  intro a0 a1 k
  have ih0 := salchowref09_Next.mono_l k
  unfold salchowref09_Next.f
  repeat' first
      | (with_reducible exact ih0 _ _ _)
      | (with_reducible exact salchowref09_Token.mono _ _ _)
      | (with_reducible exact salchowref09_skip.mono _ _ _)
      | (with_reducible exact LeO.refl _)
      | (with_reducible exact LeO.none _)
      | (with_reducible refine LeO.ite ?_ ?_)
      | (with_reducible refine LeO.bind ?_ (fun _ => ?_))
      | exact ih0 _ _ _
      | exact salchowref09_Token.mono _ _ _
      | exact salchowref09_skip.mono _ _ _
      | exact LeO.none _
      | refine LeO.ite ?_ ?_
      | refine LeO.bind ?_ (fun _ => ?_)
set_option maxHeartbeats 8000000 in
set_option maxRecDepth 100000 in
theorem salchowref09_Next.calls (k : Nat) (a0 : ByteArray) (a1 : Int) (r1 : Int) (r2 : ByteArray) (r3 : Int) (r4 : Int) (r5 : Int) (r6 : Int) (r7 : Int) (w : World) (h : salchowref09_Next.f k a0 a1 = some (r1, r2, r3, r4, r5, r6, r7)) :
    Calls Tryd.prog 42 #[.string a0, .int .i64 a1] w fun e w' => e = .returned (.tuple #[.agg #[.int .i64 r1, .string r2, .int .i64 r3, .int .i64 r4], .int .i64 r5, .agg #[.int .i64 r6, .int .i64 r7]]) ∧ Below w.heap.size w w' := by
  have hu46 := Tryd.underlying46
  have hu26 := Tryd.underlying26
  have HB := Aside0.mk (Below.refl w.heap.size w)
  have H : (if (a0.size : Int) > 65536 then (some (0, (⟨#[]⟩ : ByteArray), 0, 0, 0, 6, 65536)) else (if a1 < 0 then (salchowref09_Next.j0 k a0 a1 true) else (salchowref09_Next.j0 k a0 a1 (decide (a1 > (a0.size : Int)))))) = some (r1, r2, r3, r4, r5, r6, r7) := h
  clear h
  by_cases c3 : (a0.size : Int) > 65536
  · rw [if_pos c3] at H
    have c3b0 : decide (65536 < (a0.size : Int)) = true := decide_eq_true c3
    have c3b1 : decide (65536 < a0.size) = true := decide_eq_true (by omega)
    clear c3
    simp only [Option.some.injEq, Prod.mk.injEq] at H
    obtain ⟨rfl, rfl, rfl, rfl, rfl, rfl, rfl⟩ := H
    go_enter Tryd.func42, Tryd.ntmps42
    go_wp2_with (first | ((with_reducible refine gate_dst (N := 4) rfl ?_); (try (refine gate_guard (by rfl) ?_; dsimp only)); refine box_event ?hg (N := 4) ?hd (cs := #[.int .i64 0, .string (⟨#[]⟩ : ByteArray), .int .i64 0, .int .i64 0]) (t := 46) ?hr ?_; (case hd => rfl); (case hg => rfl); (case hr => first | (go_simp; done) | (go_simp; rfl)); intro gb220 hg w4 hbox hb; have n0_ := Aside0.mk (below_step (bl_ HB.out) hb); have n1_ := Aside0.mk (hbox); have n2_ := Aside0.mk ((by rw [hg]; exact (below_size (bl_ HB.out)) : w.heap.size ≤ gb220)); have n3_ := Aside0.mk ((by rw [hg]; exact (below_size (bl_ HB.out)) : w.heap.size ≤ gb220)); clear HB; have HB := n0_; have BK220 := n1_; have GW220 := n2_; have GE220 := n3_; clear n0_ n1_ n2_ n3_; clear hb hbox hg) | ((with_reducible refine gate_dst (N := 6) rfl ?_); (try (refine gate_guard (by rfl) ?_; dsimp only)); refine box_event ?hg (N := 6) ?hd (cs := #[.int .i64 0, .int .i64 0]) (t := 26) ?hr ?_; (case hd => rfl); (case hg => rfl); (case hr => first | (go_simp; done) | (go_simp; rfl)); intro gb221 hg w5 hbox hb; have n0_ := Aside0.mk (blk_below (g := gb220) (o := .cells #[.int .i64 0, .string (⟨#[]⟩ : ByteArray), .int .i64 0, .int .i64 0] 46 (0, 0)) (bk_ BK220.out) hb); have n1_ := Aside0.mk (below_step (bl1_ HB.out GE220.out) hb); have n2_ := Aside0.mk (hbox); have n3_ := Aside0.mk ((by rw [hg]; exact (below_size (bl1_ HB.out GE220.out)) : w.heap.size ≤ gb221)); have n4_ := Aside0.mk ((by rw [hg]; exact (below_size (bl1_ HB.out GE220.out)) : w.heap.size ≤ gb221)); have n5_ := Aside0.mk ((by rw [hg]; exact Nat.ne_of_lt (blk_lt (g := gb220) (o := .cells #[.int .i64 0, .string (⟨#[]⟩ : ByteArray), .int .i64 0, .int .i64 0] 46 (0, 0)) (bk_ BK220.out)) : gb220 ≠ gb221)); have n6_ := Aside0.mk ((by rw [hg]; exact Nat.ne_of_gt (blk_lt (g := gb220) (o := .cells #[.int .i64 0, .string (⟨#[]⟩ : ByteArray), .int .i64 0, .int .i64 0] 46 (0, 0)) (bk_ BK220.out)) : gb221 ≠ gb220)); clear BK220; clear HB; have BK220 := n0_; have HB := n1_; have BK221 := n2_; have GW221 := n3_; have GE221 := n4_; have NB220_221 := n5_; have NB221_220 := n6_; clear n0_ n1_ n2_ n3_ n4_ n5_ n6_; clear hb hbox hg; have hnb6 := NB220_221.out; have hnc6 := NB221_220.out; have hcz7_0 : w5.cell? ⟨gb220, 0, none⟩ = some (.int .i64 0) := (blk_cell BK220.out 0).trans rfl; have hcz7_1 : w5.cell? ⟨gb220, 1, none⟩ = some (.string (⟨#[]⟩ : ByteArray)) := (blk_cell BK220.out 1).trans rfl; have hcz7_2 : w5.cell? ⟨gb220, 2, none⟩ = some (.int .i64 0) := (blk_cell BK220.out 2).trans rfl; have hcz7_3 : w5.cell? ⟨gb220, 3, none⟩ = some (.int .i64 0) := (blk_cell BK220.out 3).trans rfl; have hfz7_0 := blk_frozen BK220.out 0; have hfz7_1 := blk_frozen BK220.out 1; have hfz7_2 := blk_frozen BK220.out 2; have hfz7_3 := blk_frozen BK220.out 3; have hcz8_0 : w5.cell? ⟨gb221, 0, none⟩ = some (.int .i64 0) := (blk_cell BK221.out 0).trans rfl; have hcz8_1 : w5.cell? ⟨gb221, 1, none⟩ = some (.int .i64 0) := (blk_cell BK221.out 1).trans rfl; have hfz8_0 := blk_frozen BK221.out 0; have hfz8_1 := blk_frozen BK221.out 1))
    refine bodyPost_ret (results_list (rs := [.cell 4 46, .tmp 5, .cell 6 26]) rfl (by simp) (.cell gb220 46 #[.int .i64 0, .string (⟨#[]⟩ : ByteArray), .int .i64 0, .int .i64 0] (0, 0) _ rfl (by (with_reducible repeat (first | refine blk_drewN ?_ _ | refine blk_drew ?_ | refine blk_alloc ?_ _)); refine blk_far ?_ NB220_221.out _; (with_reducible repeat (first | refine blk_drewN ?_ _ | refine blk_drew ?_ | refine blk_alloc ?_ _)); refine blk_far ?_ NB220_221.out _; (with_reducible repeat (first | refine blk_drewN ?_ _ | refine blk_drew ?_ | refine blk_alloc ?_ _)); refine blk_put (cs := #[.int .i64 0, .string (⟨#[]⟩ : ByteArray), .int .i64 0, .int .i64 0]) ?_ 3 _ rfl; (with_reducible repeat (first | refine blk_drewN ?_ _ | refine blk_drew ?_ | refine blk_alloc ?_ _)); refine blk_put (cs := #[.int .i64 0, .string (⟨#[]⟩ : ByteArray), .int .i64 0, .int .i64 0]) ?_ 2 _ rfl; (with_reducible repeat (first | refine blk_drewN ?_ _ | refine blk_drew ?_ | refine blk_alloc ?_ _)); refine blk_put (cs := #[.int .i64 0, .string (⟨#[]⟩ : ByteArray), .int .i64 0, .int .i64 0]) ?_ 1 _ rfl; (with_reducible repeat (first | refine blk_drewN ?_ _ | refine blk_drew ?_ | refine blk_alloc ?_ _)); refine blk_put (cs := #[.int .i64 0, .string (⟨#[]⟩ : ByteArray), .int .i64 0, .int .i64 0]) ?_ 0 _ rfl; (with_reducible repeat (first | refine blk_drewN ?_ _ | refine blk_drew ?_ | refine blk_alloc ?_ _)); exact BK220.out) Tryd.underlying46 rfl (by kernel_rfl) (.tmp (.cell gb221 26 #[.int .i64 6, .int .i64 65536] (0, 0) _ rfl (by (with_reducible repeat (first | refine blk_drewN ?_ _ | refine blk_drew ?_ | refine blk_alloc ?_ _)); refine blk_put (cs := #[.int .i64 6, .int .i64 0]) ?_ 1 _ rfl; (with_reducible repeat (first | refine blk_drewN ?_ _ | refine blk_drew ?_ | refine blk_alloc ?_ _)); refine blk_put (cs := #[.int .i64 0, .int .i64 0]) ?_ 0 _ rfl; (with_reducible repeat (first | refine blk_drewN ?_ _ | refine blk_drew ?_ | refine blk_alloc ?_ _)); refine blk_far ?_ NB221_220.out _; (with_reducible repeat (first | refine blk_drewN ?_ _ | refine blk_drew ?_ | refine blk_alloc ?_ _)); refine blk_far ?_ NB221_220.out _; (with_reducible repeat (first | refine blk_drewN ?_ _ | refine blk_drew ?_ | refine blk_alloc ?_ _)); refine blk_far ?_ NB221_220.out _; (with_reducible repeat (first | refine blk_drewN ?_ _ | refine blk_drew ?_ | refine blk_alloc ?_ _)); refine blk_far ?_ NB221_220.out _; (with_reducible repeat (first | refine blk_drewN ?_ _ | refine blk_drew ?_ | refine blk_alloc ?_ _)); exact BK221.out) Tryd.underlying26 rfl (by kernel_rfl) .nil)))) rfl ?_
    exact ⟨er_, bl2_ HB.out GE220.out GE221.out⟩
  · rw [if_neg c3] at H
    have c3b0 : decide (65536 < (a0.size : Int)) = false := decide_eq_false c3
    have c3b1 : decide (65536 < a0.size) = false := decide_eq_false (by omega)
    clear c3
    have HC9 := Aside0.mk H
    clear H
    go_enter Tryd.func42, Tryd.ntmps42
    go_upto_region 3 with (first | ((with_reducible refine gate_dst (N := 4) rfl ?_); (try (refine gate_guard (by rfl) ?_; dsimp only)); refine box_event ?hg (N := 4) ?hd (cs := #[.int .i64 0, .string (⟨#[]⟩ : ByteArray), .int .i64 0, .int .i64 0]) (t := 46) ?hr ?_; (case hd => rfl); (case hg => rfl); (case hr => first | (go_simp; done) | (go_simp; rfl)); intro gb220 hg w10 hbox hb; have n0_ := Aside0.mk (below_step (bl_ HB.out) hb); have n1_ := Aside0.mk (hbox); have n2_ := Aside0.mk ((by rw [hg]; exact (below_size (bl_ HB.out)) : w.heap.size ≤ gb220)); have n3_ := Aside0.mk ((by rw [hg]; exact (below_size (bl_ HB.out)) : w.heap.size ≤ gb220)); clear HB; have HB := n0_; have BK220 := n1_; have GW220 := n2_; have GE220 := n3_; clear n0_ n1_ n2_ n3_; clear hb hbox hg) | ((with_reducible refine gate_dst (N := 6) rfl ?_); (try (refine gate_guard (by rfl) ?_; dsimp only)); refine box_event ?hg (N := 6) ?hd (cs := #[.int .i64 0, .int .i64 0]) (t := 26) ?hr ?_; (case hd => rfl); (case hg => rfl); (case hr => first | (go_simp; done) | (go_simp; rfl)); intro gb221 hg w11 hbox hb; have n0_ := Aside0.mk (blk_below (g := gb220) (o := .cells #[.int .i64 0, .string (⟨#[]⟩ : ByteArray), .int .i64 0, .int .i64 0] 46 (0, 0)) (bk_ BK220.out) hb); have n1_ := Aside0.mk (below_step (bl1_ HB.out GE220.out) hb); have n2_ := Aside0.mk (hbox); have n3_ := Aside0.mk ((by rw [hg]; exact (below_size (bl1_ HB.out GE220.out)) : w.heap.size ≤ gb221)); have n4_ := Aside0.mk ((by rw [hg]; exact (below_size (bl1_ HB.out GE220.out)) : w.heap.size ≤ gb221)); have n5_ := Aside0.mk ((by rw [hg]; exact Nat.ne_of_lt (blk_lt (g := gb220) (o := .cells #[.int .i64 0, .string (⟨#[]⟩ : ByteArray), .int .i64 0, .int .i64 0] 46 (0, 0)) (bk_ BK220.out)) : gb220 ≠ gb221)); have n6_ := Aside0.mk ((by rw [hg]; exact Nat.ne_of_gt (blk_lt (g := gb220) (o := .cells #[.int .i64 0, .string (⟨#[]⟩ : ByteArray), .int .i64 0, .int .i64 0] 46 (0, 0)) (bk_ BK220.out)) : gb221 ≠ gb220)); clear BK220; clear HB; have BK220 := n0_; have HB := n1_; have BK221 := n2_; have GW221 := n3_; have GE221 := n4_; have NB220_221 := n5_; have NB221_220 := n6_; clear n0_ n1_ n2_ n3_ n4_ n5_ n6_; clear hb hbox hg))
    (try simp only [Act.put, List.setIfInBounds_toArray, List.set_cons_zero, List.set_cons_succ])
    go_cut [23] (fun v23 wc => ∃ (kq : Nat) (x23_8 : Bool), v23 = .bool x23_8 ∧ Aside0 (salchowref09_Next.j0 kq a0 a1 x23_8 = some (r1, r2, r3, r4, r5, r6, r7)) ∧ Aside0 (kq ≤ k) ∧ Aside0 (wc.heap[gb220]? = some (.cells #[.int .i64 0, .string (⟨#[]⟩ : ByteArray), .int .i64 0, .int .i64 0] 46 (0, 0))) ∧ Aside0 (wc.heap[gb221]? = some (.cells #[.int .i64 0, .int .i64 0] 26 (0, 0))) ∧ Aside0 (Below w.heap.size w wc))
    case first =>
      have H := HC9.out
      clear HC9
      by_cases c12 : a1 < 0
      · rw [if_pos c12] at H
        have c12b0 : decide (a1 < 0) = true := decide_eq_true c12
        clear c12
        (first | rw [c12b0] | (simp only [i64_w, i32_w]; rw [c12b0]) | skip)
        have H' := Aside0.mk H
        clear H
        go_wp2
        go_meet
        case rel => exact ⟨_, (true), (by first | rfl | (simp; done) | (simp [*]; done) | (simp <;> rfl)), H', ⟨by first | omega | exact Nat.le_refl _⟩, ⟨by (with_reducible repeat (first | refine blk_drewN ?_ _ | refine blk_drew ?_ | refine blk_alloc ?_ _)); exact BK220.out⟩, ⟨by (with_reducible repeat (first | refine blk_drewN ?_ _ | refine blk_drew ?_ | refine blk_alloc ?_ _)); exact BK221.out⟩, ⟨bl2_ HB.out GE220.out GE221.out⟩⟩
      · rw [if_neg c12] at H
        have c12b0 : decide (a1 < 0) = false := decide_eq_false c12
        clear c12
        (first | rw [c12b0] | (simp only [i64_w, i32_w]; rw [c12b0]) | skip)
        have H' := Aside0.mk H
        clear H
        go_wp2
        go_meet
        case rel => exact ⟨_, (decide (a1 > (a0.size : Int))), (by first | rfl | (simp; done) | (simp [*]; done) | (simp <;> rfl)), H', ⟨by first | omega | exact Nat.le_refl _⟩, ⟨by (with_reducible repeat (first | refine blk_drewN ?_ _ | refine blk_drew ?_ | refine blk_alloc ?_ _)); exact BK220.out⟩, ⟨by (with_reducible repeat (first | refine blk_drewN ?_ _ | refine blk_drew ?_ | refine blk_alloc ?_ _)); exact BK221.out⟩, ⟨bl2_ HB.out GE220.out GE221.out⟩⟩
    case rest =>
      clear HC9
      try clear c1
      try clear p2
      try clear c3
      try clear c3b0
      try clear c3b1
      try clear c4
      try clear c6
      try clear c12
      try clear c12b0
      try clear hcz7_0
      try clear hcz7_1
      try clear hcz7_2
      try clear hcz7_3
      try clear hcz8_0
      try clear hcz8_1
      try clear hfz7_0
      try clear hfz7_1
      try clear hfz7_2
      try clear hfz7_3
      try clear hfz8_0
      try clear hfz8_1
      obtain ⟨kq, x23_8, rfl, HA, HJ8, BK220, BK221, HB⟩ := hcut
      cases kq with
      | zero => exact absurd HA.out (by simp [salchowref09_Next.j0])
      | succ kj8 =>
        have H := HA.out
        clear HA
        simp only [salchowref09_Next.j0] at H
        by_cases c13 : x23_8 = true
        · subst c13
          have H1 : (some (0, (⟨#[]⟩ : ByteArray), 0, 0, 0, 1, 0)) = some (r1, r2, r3, r4, r5, r6, r7) := by rw [if_pos rfl] at H; exact H
          clear H
          have H := H1
          clear H1
          simp only [Option.some.injEq, Prod.mk.injEq] at H
          obtain ⟨rfl, rfl, rfl, rfl, rfl, rfl, rfl⟩ := H
          have hnb14 := NB220_221.out
          have hnc14 := NB221_220.out
          have hcz15_0 : wc.cell? ⟨gb220, 0, none⟩ = some (.int .i64 0) := (blk_cell BK220.out 0).trans rfl
          have hcz15_1 : wc.cell? ⟨gb220, 1, none⟩ = some (.string (⟨#[]⟩ : ByteArray)) := (blk_cell BK220.out 1).trans rfl
          have hcz15_2 : wc.cell? ⟨gb220, 2, none⟩ = some (.int .i64 0) := (blk_cell BK220.out 2).trans rfl
          have hcz15_3 : wc.cell? ⟨gb220, 3, none⟩ = some (.int .i64 0) := (blk_cell BK220.out 3).trans rfl
          have hfz15_0 := blk_frozen BK220.out 0
          have hfz15_1 := blk_frozen BK220.out 1
          have hfz15_2 := blk_frozen BK220.out 2
          have hfz15_3 := blk_frozen BK220.out 3
          have hcz16_0 : wc.cell? ⟨gb221, 0, none⟩ = some (.int .i64 0) := (blk_cell BK221.out 0).trans rfl
          have hcz16_1 : wc.cell? ⟨gb221, 1, none⟩ = some (.int .i64 0) := (blk_cell BK221.out 1).trans rfl
          have hfz16_0 := blk_frozen BK221.out 0
          have hfz16_1 := blk_frozen BK221.out 1
          go_wp2
          refine bodyPost_ret (results_list (rs := [.cell 4 46, .tmp 5, .cell 6 26]) rfl (by simp) (.cell gb220 46 #[.int .i64 0, .string (⟨#[]⟩ : ByteArray), .int .i64 0, .int .i64 0] (0, 0) _ rfl (by (with_reducible repeat (first | refine blk_drewN ?_ _ | refine blk_drew ?_ | refine blk_alloc ?_ _)); refine blk_far ?_ NB220_221.out _; (with_reducible repeat (first | refine blk_drewN ?_ _ | refine blk_drew ?_ | refine blk_alloc ?_ _)); refine blk_far ?_ NB220_221.out _; (with_reducible repeat (first | refine blk_drewN ?_ _ | refine blk_drew ?_ | refine blk_alloc ?_ _)); refine blk_put (cs := #[.int .i64 0, .string (⟨#[]⟩ : ByteArray), .int .i64 0, .int .i64 0]) ?_ 3 _ rfl; (with_reducible repeat (first | refine blk_drewN ?_ _ | refine blk_drew ?_ | refine blk_alloc ?_ _)); refine blk_put (cs := #[.int .i64 0, .string (⟨#[]⟩ : ByteArray), .int .i64 0, .int .i64 0]) ?_ 2 _ rfl; (with_reducible repeat (first | refine blk_drewN ?_ _ | refine blk_drew ?_ | refine blk_alloc ?_ _)); refine blk_put (cs := #[.int .i64 0, .string (⟨#[]⟩ : ByteArray), .int .i64 0, .int .i64 0]) ?_ 1 _ rfl; (with_reducible repeat (first | refine blk_drewN ?_ _ | refine blk_drew ?_ | refine blk_alloc ?_ _)); refine blk_put (cs := #[.int .i64 0, .string (⟨#[]⟩ : ByteArray), .int .i64 0, .int .i64 0]) ?_ 0 _ rfl; (with_reducible repeat (first | refine blk_drewN ?_ _ | refine blk_drew ?_ | refine blk_alloc ?_ _)); exact BK220.out) Tryd.underlying46 rfl (by kernel_rfl) (.tmp (.cell gb221 26 #[.int .i64 1, .int .i64 0] (0, 0) _ rfl (by (with_reducible repeat (first | refine blk_drewN ?_ _ | refine blk_drew ?_ | refine blk_alloc ?_ _)); refine blk_put (cs := #[.int .i64 1, .int .i64 0]) ?_ 1 _ rfl; (with_reducible repeat (first | refine blk_drewN ?_ _ | refine blk_drew ?_ | refine blk_alloc ?_ _)); refine blk_put (cs := #[.int .i64 0, .int .i64 0]) ?_ 0 _ rfl; (with_reducible repeat (first | refine blk_drewN ?_ _ | refine blk_drew ?_ | refine blk_alloc ?_ _)); refine blk_far ?_ NB221_220.out _; (with_reducible repeat (first | refine blk_drewN ?_ _ | refine blk_drew ?_ | refine blk_alloc ?_ _)); refine blk_far ?_ NB221_220.out _; (with_reducible repeat (first | refine blk_drewN ?_ _ | refine blk_drew ?_ | refine blk_alloc ?_ _)); refine blk_far ?_ NB221_220.out _; (with_reducible repeat (first | refine blk_drewN ?_ _ | refine blk_drew ?_ | refine blk_alloc ?_ _)); refine blk_far ?_ NB221_220.out _; (with_reducible repeat (first | refine blk_drewN ?_ _ | refine blk_drew ?_ | refine blk_alloc ?_ _)); exact BK221.out) Tryd.underlying26 rfl (by kernel_rfl) .nil)))) rfl ?_
          exact ⟨er_, bl2_ HB.out GE220.out GE221.out⟩
        · replace c13 := Bool.eq_false_iff.mpr c13
          subst c13
          have H1 : ((salchowref09_skip.f kj8 a0 a1).bind fun t222 => ((salchowref09_Token.f kj8 a0 t222).bind fun bt223 => (if bt223.2.2.2.2.2 = 0 then (some (bt223.1, bt223.2.1, bt223.2.2.1, bt223.2.2.2.1, bt223.2.2.2.2.1, 0, 0)) else (some (0, (⟨#[]⟩ : ByteArray), 0, 0, 0, bt223.2.2.2.2.2, t222))))) = some (r1, r2, r3, r4, r5, r6, r7) := by rw [if_neg (show ¬ (false = true) by decide)] at H; exact H
          clear H
          have H := H1
          clear H1
          replace H := Option.bind_eq_some_iff.mp H
          obtain ⟨t222, A170, H⟩ := H
          replace H : ((salchowref09_Token.f kj8 a0 t222).bind fun bt223 => (if bt223.2.2.2.2.2 = 0 then (some (bt223.1, bt223.2.1, bt223.2.2.1, bt223.2.2.2.1, bt223.2.2.2.2.1, 0, 0)) else (some (0, (⟨#[]⟩ : ByteArray), 0, 0, 0, bt223.2.2.2.2.2, t222)))) = some (r1, r2, r3, r4, r5, r6, r7) := H
          have A17 := Aside0.mk A170
          clear A170
          replace H := Option.bind_eq_some_iff.mp H
          obtain ⟨⟨t223, t224, t225, t226, t227, t228⟩, A180, H⟩ := H
          replace H : (if t228 = 0 then (some (t223, t224, t225, t226, t227, 0, 0)) else (some (0, (⟨#[]⟩ : ByteArray), 0, 0, 0, t228, t222))) = some (r1, r2, r3, r4, r5, r6, r7) := H
          have A18 := Aside0.mk A180
          clear A180
          by_cases c19 : t228 = 0
          · rw [if_pos c19] at H
            have c19b0 : (t228 == 0) = true := beq_iff_eq.mpr c19
            have c19b1 : (t228 != 0) = false := bne_eq_false_iff_eq.mpr c19
            clear c19
            simp only [Option.some.injEq, Prod.mk.injEq] at H
            obtain ⟨rfl, rfl, rfl, rfl, rfl, rfl, rfl⟩ := H
            go_wp2_with (first | ((with_reducible refine gate_callee (f := 70) rfl ?_); refine goesL_ (some 28) rfl rfl Tryd.func70 (by kernel_rfl) rfl #[.string a0, .int .i64 a1] rfl (by (try simp only [List.map_toArray, List.map_cons, List.map_nil]); first | done | rfl | (simp only [List.length_drop, List.length_take]; rfl)) ?_; (with_reducible refine (salchowref09_skip.calls kj8 a0 a1 t222 _ A17.out).mono ?_); rintro e w' ⟨rfl, ⟨nd, rfl⟩⟩; refine ⟨_, rfl, ?_⟩; (try (rw [drewN_self wc]; generalize hq_ : World.drewN wc _ = wc; have n0_ : Aside0 (wc.heap[gb220]? = some (.cells #[.int .i64 0, .string (⟨#[]⟩ : ByteArray), .int .i64 0, .int .i64 0] 46 (0, 0))) := ⟨by rw [← hq_]; exact (bk_ BK220.out)⟩; have n1_ : Aside0 (wc.heap[gb221]? = some (.cells #[.int .i64 0, .int .i64 0] 26 (0, 0))) := ⟨by rw [← hq_]; exact (bk_ BK221.out)⟩; have n2_ : Aside0 (Below w.heap.size w wc) := ⟨by rw [← hq_]; exact (bl2_ HB.out GE220.out GE221.out)⟩; clear BK220 BK221 HB hq_; have BK220 := n0_; have BK221 := n1_; have HB := n2_; clear n0_ n1_ n2_))) | ((with_reducible refine gate_callee (f := 66) rfl ?_); refine goesL_ (some 32) rfl rfl Tryd.func66 (by kernel_rfl) rfl #[.string a0, .int .i64 t222] rfl (by (try simp only [List.map_toArray, List.map_cons, List.map_nil]); first | done | rfl | (simp only [List.length_drop, List.length_take]; rfl)) ?_; (with_reducible refine (salchowref09_Token.calls kj8 a0 t222 t223 t224 t225 t226 t227 t228 _ A18.out).mono ?_); rintro e w20 ⟨rfl, hb⟩; refine ⟨_, rfl, ?_⟩; have n0_ := Aside0.mk (blk_below (g := gb220) (o := .cells #[.int .i64 0, .string (⟨#[]⟩ : ByteArray), .int .i64 0, .int .i64 0] 46 (0, 0)) (bk_ BK220.out) hb); have n1_ := Aside0.mk (blk_below (g := gb221) (o := .cells #[.int .i64 0, .int .i64 0] 26 (0, 0)) (bk_ BK221.out) hb); have n2_ := Aside0.mk (below_step (bl2_ HB.out GE220.out GE221.out) hb); clear BK220; clear BK221; clear HB; have BK220 := n0_; have BK221 := n1_; have HB := n2_; clear n0_ n1_ n2_; (try clear hb); (try clear hb2); (try clear hk); (try clear hi)) | ((with_reducible refine gate_dst (N := 8) rfl ?_); (try (refine gate_guard (by rfl) ?_; dsimp only)); refine box_event ?hg (N := 8) ?hd (cs := #[.int .i64 0, .string (⟨#[]⟩ : ByteArray), .int .i64 0, .int .i64 0]) (t := 46) ?hr ?_; (case hd => rfl); (case hg => rfl); (case hr => first | (go_simp; done) | (go_simp; rfl)); intro gb229 hg w21 hbox hb; have n0_ := Aside0.mk (blk_below (g := gb220) (o := .cells #[.int .i64 0, .string (⟨#[]⟩ : ByteArray), .int .i64 0, .int .i64 0] 46 (0, 0)) (bk_ BK220.out) hb); have n1_ := Aside0.mk (blk_below (g := gb221) (o := .cells #[.int .i64 0, .int .i64 0] 26 (0, 0)) (bk_ BK221.out) hb); have n2_ := Aside0.mk (below_step (bl2_ HB.out GE220.out GE221.out) hb); have n3_ := Aside0.mk (hbox); have n4_ := Aside0.mk ((by rw [hg]; exact (below_size (bl2_ HB.out GE220.out GE221.out)) : w.heap.size ≤ gb229)); have n5_ := Aside0.mk ((by rw [hg]; exact (below_size (bl2_ HB.out GE220.out GE221.out)) : w.heap.size ≤ gb229)); have n6_ := Aside0.mk ((by rw [hg]; exact Nat.ne_of_lt (blk_lt (g := gb220) (o := .cells #[.int .i64 0, .string (⟨#[]⟩ : ByteArray), .int .i64 0, .int .i64 0] 46 (0, 0)) (bk_ BK220.out)) : gb220 ≠ gb229)); have n7_ := Aside0.mk ((by rw [hg]; exact Nat.ne_of_gt (blk_lt (g := gb220) (o := .cells #[.int .i64 0, .string (⟨#[]⟩ : ByteArray), .int .i64 0, .int .i64 0] 46 (0, 0)) (bk_ BK220.out)) : gb229 ≠ gb220)); have n8_ := Aside0.mk ((by rw [hg]; exact Nat.ne_of_lt (blk_lt (g := gb221) (o := .cells #[.int .i64 0, .int .i64 0] 26 (0, 0)) (bk_ BK221.out)) : gb221 ≠ gb229)); have n9_ := Aside0.mk ((by rw [hg]; exact Nat.ne_of_gt (blk_lt (g := gb221) (o := .cells #[.int .i64 0, .int .i64 0] 26 (0, 0)) (bk_ BK221.out)) : gb229 ≠ gb221)); clear BK220; clear BK221; clear HB; have BK220 := n0_; have BK221 := n1_; have HB := n2_; have BK229 := n3_; have GW229 := n4_; have GE229 := n5_; have NB220_229 := n6_; have NB229_220 := n7_; have NB221_229 := n8_; have NB229_221 := n9_; clear n0_ n1_ n2_ n3_ n4_ n5_ n6_ n7_ n8_ n9_; clear hb hbox hg; have hnb22 := NB229_220.out; have hnc22 := NB220_229.out; have hnb23 := NB229_221.out; have hnc23 := NB221_229.out; have hcz24_0 : w21.cell? ⟨gb229, 0, none⟩ = some (.int .i64 0) := (blk_cell BK229.out 0).trans rfl; have hcz24_1 : w21.cell? ⟨gb229, 1, none⟩ = some (.string (⟨#[]⟩ : ByteArray)) := (blk_cell BK229.out 1).trans rfl; have hcz24_2 : w21.cell? ⟨gb229, 2, none⟩ = some (.int .i64 0) := (blk_cell BK229.out 2).trans rfl; have hcz24_3 : w21.cell? ⟨gb229, 3, none⟩ = some (.int .i64 0) := (blk_cell BK229.out 3).trans rfl; have hfz24_0 := blk_frozen BK229.out 0; have hfz24_1 := blk_frozen BK229.out 1; have hfz24_2 := blk_frozen BK229.out 2; have hfz24_3 := blk_frozen BK229.out 3; have hnb25 := NB220_221.out; have hnc25 := NB221_220.out; have hcz26_0 : w21.cell? ⟨gb220, 0, none⟩ = some (.int .i64 0) := (blk_cell BK220.out 0).trans rfl; have hcz26_1 : w21.cell? ⟨gb220, 1, none⟩ = some (.string (⟨#[]⟩ : ByteArray)) := (blk_cell BK220.out 1).trans rfl; have hcz26_2 : w21.cell? ⟨gb220, 2, none⟩ = some (.int .i64 0) := (blk_cell BK220.out 2).trans rfl; have hcz26_3 : w21.cell? ⟨gb220, 3, none⟩ = some (.int .i64 0) := (blk_cell BK220.out 3).trans rfl; have hfz26_0 := blk_frozen BK220.out 0; have hfz26_1 := blk_frozen BK220.out 1; have hfz26_2 := blk_frozen BK220.out 2; have hfz26_3 := blk_frozen BK220.out 3; have hcz27_0 : w21.cell? ⟨gb221, 0, none⟩ = some (.int .i64 0) := (blk_cell BK221.out 0).trans rfl; have hcz27_1 : w21.cell? ⟨gb221, 1, none⟩ = some (.int .i64 0) := (blk_cell BK221.out 1).trans rfl; have hfz27_0 := blk_frozen BK221.out 0; have hfz27_1 := blk_frozen BK221.out 1))
            refine bodyPost_ret (results_list (rs := [.cell 4 46, .tmp 5, .cell 6 26]) rfl (by simp) (.cell gb220 46 #[.int .i64 t223, .string t224, .int .i64 t225, .int .i64 t226] (0, 0) _ rfl (by (with_reducible repeat (first | refine blk_drewN ?_ _ | refine blk_drew ?_ | refine blk_alloc ?_ _)); refine blk_far ?_ NB220_221.out _; (with_reducible repeat (first | refine blk_drewN ?_ _ | refine blk_drew ?_ | refine blk_alloc ?_ _)); refine blk_far ?_ NB220_221.out _; (with_reducible repeat (first | refine blk_drewN ?_ _ | refine blk_drew ?_ | refine blk_alloc ?_ _)); refine blk_put (cs := #[.int .i64 t223, .string t224, .int .i64 t225, .int .i64 0]) ?_ 3 _ rfl; (with_reducible repeat (first | refine blk_drewN ?_ _ | refine blk_drew ?_ | refine blk_alloc ?_ _)); refine blk_put (cs := #[.int .i64 t223, .string t224, .int .i64 0, .int .i64 0]) ?_ 2 _ rfl; (with_reducible repeat (first | refine blk_drewN ?_ _ | refine blk_drew ?_ | refine blk_alloc ?_ _)); refine blk_put (cs := #[.int .i64 t223, .string (⟨#[]⟩ : ByteArray), .int .i64 0, .int .i64 0]) ?_ 1 _ rfl; (with_reducible repeat (first | refine blk_drewN ?_ _ | refine blk_drew ?_ | refine blk_alloc ?_ _)); refine blk_put (cs := #[.int .i64 0, .string (⟨#[]⟩ : ByteArray), .int .i64 0, .int .i64 0]) ?_ 0 _ rfl; (with_reducible repeat (first | refine blk_drewN ?_ _ | refine blk_drew ?_ | refine blk_alloc ?_ _)); refine blk_far ?_ NB220_229.out _; (with_reducible repeat (first | refine blk_drewN ?_ _ | refine blk_drew ?_ | refine blk_alloc ?_ _)); refine blk_far ?_ NB220_229.out _; (with_reducible repeat (first | refine blk_drewN ?_ _ | refine blk_drew ?_ | refine blk_alloc ?_ _)); refine blk_far ?_ NB220_229.out _; (with_reducible repeat (first | refine blk_drewN ?_ _ | refine blk_drew ?_ | refine blk_alloc ?_ _)); refine blk_far ?_ NB220_229.out _; (with_reducible repeat (first | refine blk_drewN ?_ _ | refine blk_drew ?_ | refine blk_alloc ?_ _)); exact BK220.out) Tryd.underlying46 rfl (by kernel_rfl) (.tmp (.cell gb221 26 #[.int .i64 0, .int .i64 0] (0, 0) _ rfl (by (with_reducible repeat (first | refine blk_drewN ?_ _ | refine blk_drew ?_ | refine blk_alloc ?_ _)); refine blk_put (cs := #[.int .i64 0, .int .i64 0]) ?_ 1 _ rfl; (with_reducible repeat (first | refine blk_drewN ?_ _ | refine blk_drew ?_ | refine blk_alloc ?_ _)); refine blk_put (cs := #[.int .i64 0, .int .i64 0]) ?_ 0 _ rfl; (with_reducible repeat (first | refine blk_drewN ?_ _ | refine blk_drew ?_ | refine blk_alloc ?_ _)); refine blk_far ?_ NB221_220.out _; (with_reducible repeat (first | refine blk_drewN ?_ _ | refine blk_drew ?_ | refine blk_alloc ?_ _)); refine blk_far ?_ NB221_220.out _; (with_reducible repeat (first | refine blk_drewN ?_ _ | refine blk_drew ?_ | refine blk_alloc ?_ _)); refine blk_far ?_ NB221_220.out _; (with_reducible repeat (first | refine blk_drewN ?_ _ | refine blk_drew ?_ | refine blk_alloc ?_ _)); refine blk_far ?_ NB221_220.out _; (with_reducible repeat (first | refine blk_drewN ?_ _ | refine blk_drew ?_ | refine blk_alloc ?_ _)); refine blk_far ?_ NB221_229.out _; (with_reducible repeat (first | refine blk_drewN ?_ _ | refine blk_drew ?_ | refine blk_alloc ?_ _)); refine blk_far ?_ NB221_229.out _; (with_reducible repeat (first | refine blk_drewN ?_ _ | refine blk_drew ?_ | refine blk_alloc ?_ _)); refine blk_far ?_ NB221_229.out _; (with_reducible repeat (first | refine blk_drewN ?_ _ | refine blk_drew ?_ | refine blk_alloc ?_ _)); refine blk_far ?_ NB221_229.out _; (with_reducible repeat (first | refine blk_drewN ?_ _ | refine blk_drew ?_ | refine blk_alloc ?_ _)); exact BK221.out) Tryd.underlying26 rfl (by kernel_rfl) .nil)))) rfl ?_
            exact ⟨er_, bl3_ HB.out GE220.out GE221.out GE229.out⟩
          · rw [if_neg c19] at H
            have c19b0 : (t228 == 0) = false := beq_eq_false_iff_ne.mpr c19
            have c19b1 : (t228 != 0) = true := bne_iff_ne.mpr c19
            simp only [Option.some.injEq, Prod.mk.injEq] at H
            obtain ⟨rfl, rfl, rfl, rfl, rfl, rfl, rfl⟩ := H
            go_wp2_with (first | ((with_reducible refine gate_callee (f := 70) rfl ?_); refine goesL_ (some 28) rfl rfl Tryd.func70 (by kernel_rfl) rfl #[.string a0, .int .i64 a1] rfl (by (try simp only [List.map_toArray, List.map_cons, List.map_nil]); first | done | rfl | (simp only [List.length_drop, List.length_take]; rfl)) ?_; (with_reducible refine (salchowref09_skip.calls kj8 a0 a1 t222 _ A17.out).mono ?_); rintro e w' ⟨rfl, ⟨nd, rfl⟩⟩; refine ⟨_, rfl, ?_⟩; (try (rw [drewN_self wc]; generalize hq_ : World.drewN wc _ = wc; have n0_ : Aside0 (wc.heap[gb220]? = some (.cells #[.int .i64 0, .string (⟨#[]⟩ : ByteArray), .int .i64 0, .int .i64 0] 46 (0, 0))) := ⟨by rw [← hq_]; exact (bk_ BK220.out)⟩; have n1_ : Aside0 (wc.heap[gb221]? = some (.cells #[.int .i64 0, .int .i64 0] 26 (0, 0))) := ⟨by rw [← hq_]; exact (bk_ BK221.out)⟩; have n2_ : Aside0 (Below w.heap.size w wc) := ⟨by rw [← hq_]; exact (bl2_ HB.out GE220.out GE221.out)⟩; clear BK220 BK221 HB hq_; have BK220 := n0_; have BK221 := n1_; have HB := n2_; clear n0_ n1_ n2_))) | ((with_reducible refine gate_callee (f := 66) rfl ?_); refine goesL_ (some 32) rfl rfl Tryd.func66 (by kernel_rfl) rfl #[.string a0, .int .i64 t222] rfl (by (try simp only [List.map_toArray, List.map_cons, List.map_nil]); first | done | rfl | (simp only [List.length_drop, List.length_take]; rfl)) ?_; (with_reducible refine (salchowref09_Token.calls kj8 a0 t222 t223 t224 t225 t226 t227 t228 _ A18.out).mono ?_); rintro e w28 ⟨rfl, hb⟩; refine ⟨_, rfl, ?_⟩; have n0_ := Aside0.mk (blk_below (g := gb220) (o := .cells #[.int .i64 0, .string (⟨#[]⟩ : ByteArray), .int .i64 0, .int .i64 0] 46 (0, 0)) (bk_ BK220.out) hb); have n1_ := Aside0.mk (blk_below (g := gb221) (o := .cells #[.int .i64 0, .int .i64 0] 26 (0, 0)) (bk_ BK221.out) hb); have n2_ := Aside0.mk (below_step (bl2_ HB.out GE220.out GE221.out) hb); clear BK220; clear BK221; clear HB; have BK220 := n0_; have BK221 := n1_; have HB := n2_; clear n0_ n1_ n2_; (try clear hb); (try clear hb2); (try clear hk); (try clear hi)) | ((with_reducible refine gate_dst (N := 8) rfl ?_); (try (refine gate_guard (by rfl) ?_; dsimp only)); refine box_event ?hg (N := 8) ?hd (cs := #[.int .i64 0, .string (⟨#[]⟩ : ByteArray), .int .i64 0, .int .i64 0]) (t := 46) ?hr ?_; (case hd => rfl); (case hg => rfl); (case hr => first | (go_simp; done) | (go_simp; rfl)); intro gb229 hg w29 hbox hb; have n0_ := Aside0.mk (blk_below (g := gb220) (o := .cells #[.int .i64 0, .string (⟨#[]⟩ : ByteArray), .int .i64 0, .int .i64 0] 46 (0, 0)) (bk_ BK220.out) hb); have n1_ := Aside0.mk (blk_below (g := gb221) (o := .cells #[.int .i64 0, .int .i64 0] 26 (0, 0)) (bk_ BK221.out) hb); have n2_ := Aside0.mk (below_step (bl2_ HB.out GE220.out GE221.out) hb); have n3_ := Aside0.mk (hbox); have n4_ := Aside0.mk ((by rw [hg]; exact (below_size (bl2_ HB.out GE220.out GE221.out)) : w.heap.size ≤ gb229)); have n5_ := Aside0.mk ((by rw [hg]; exact (below_size (bl2_ HB.out GE220.out GE221.out)) : w.heap.size ≤ gb229)); have n6_ := Aside0.mk ((by rw [hg]; exact Nat.ne_of_lt (blk_lt (g := gb220) (o := .cells #[.int .i64 0, .string (⟨#[]⟩ : ByteArray), .int .i64 0, .int .i64 0] 46 (0, 0)) (bk_ BK220.out)) : gb220 ≠ gb229)); have n7_ := Aside0.mk ((by rw [hg]; exact Nat.ne_of_gt (blk_lt (g := gb220) (o := .cells #[.int .i64 0, .string (⟨#[]⟩ : ByteArray), .int .i64 0, .int .i64 0] 46 (0, 0)) (bk_ BK220.out)) : gb229 ≠ gb220)); have n8_ := Aside0.mk ((by rw [hg]; exact Nat.ne_of_lt (blk_lt (g := gb221) (o := .cells #[.int .i64 0, .int .i64 0] 26 (0, 0)) (bk_ BK221.out)) : gb221 ≠ gb229)); have n9_ := Aside0.mk ((by rw [hg]; exact Nat.ne_of_gt (blk_lt (g := gb221) (o := .cells #[.int .i64 0, .int .i64 0] 26 (0, 0)) (bk_ BK221.out)) : gb229 ≠ gb221)); clear BK220; clear BK221; clear HB; have BK220 := n0_; have BK221 := n1_; have HB := n2_; have BK229 := n3_; have GW229 := n4_; have GE229 := n5_; have NB220_229 := n6_; have NB229_220 := n7_; have NB221_229 := n8_; have NB229_221 := n9_; clear n0_ n1_ n2_ n3_ n4_ n5_ n6_ n7_ n8_ n9_; clear hb hbox hg; have hnb30 := NB229_220.out; have hnc30 := NB220_229.out; have hnb31 := NB229_221.out; have hnc31 := NB221_229.out; have hcz32_0 : w29.cell? ⟨gb229, 0, none⟩ = some (.int .i64 0) := (blk_cell BK229.out 0).trans rfl; have hcz32_1 : w29.cell? ⟨gb229, 1, none⟩ = some (.string (⟨#[]⟩ : ByteArray)) := (blk_cell BK229.out 1).trans rfl; have hcz32_2 : w29.cell? ⟨gb229, 2, none⟩ = some (.int .i64 0) := (blk_cell BK229.out 2).trans rfl; have hcz32_3 : w29.cell? ⟨gb229, 3, none⟩ = some (.int .i64 0) := (blk_cell BK229.out 3).trans rfl; have hfz32_0 := blk_frozen BK229.out 0; have hfz32_1 := blk_frozen BK229.out 1; have hfz32_2 := blk_frozen BK229.out 2; have hfz32_3 := blk_frozen BK229.out 3; have hnb33 := NB220_221.out; have hnc33 := NB221_220.out; have hcz34_0 : w29.cell? ⟨gb220, 0, none⟩ = some (.int .i64 0) := (blk_cell BK220.out 0).trans rfl; have hcz34_1 : w29.cell? ⟨gb220, 1, none⟩ = some (.string (⟨#[]⟩ : ByteArray)) := (blk_cell BK220.out 1).trans rfl; have hcz34_2 : w29.cell? ⟨gb220, 2, none⟩ = some (.int .i64 0) := (blk_cell BK220.out 2).trans rfl; have hcz34_3 : w29.cell? ⟨gb220, 3, none⟩ = some (.int .i64 0) := (blk_cell BK220.out 3).trans rfl; have hfz34_0 := blk_frozen BK220.out 0; have hfz34_1 := blk_frozen BK220.out 1; have hfz34_2 := blk_frozen BK220.out 2; have hfz34_3 := blk_frozen BK220.out 3; have hcz35_0 : w29.cell? ⟨gb221, 0, none⟩ = some (.int .i64 0) := (blk_cell BK221.out 0).trans rfl; have hcz35_1 : w29.cell? ⟨gb221, 1, none⟩ = some (.int .i64 0) := (blk_cell BK221.out 1).trans rfl; have hfz35_0 := blk_frozen BK221.out 0; have hfz35_1 := blk_frozen BK221.out 1))
            refine bodyPost_ret (results_list (rs := [.cell 4 46, .tmp 5, .cell 6 26]) rfl (by simp) (.cell gb220 46 #[.int .i64 0, .string (⟨#[]⟩ : ByteArray), .int .i64 0, .int .i64 0] (0, 0) _ rfl (by (with_reducible repeat (first | refine blk_drewN ?_ _ | refine blk_drew ?_ | refine blk_alloc ?_ _)); refine blk_far ?_ NB220_221.out _; (with_reducible repeat (first | refine blk_drewN ?_ _ | refine blk_drew ?_ | refine blk_alloc ?_ _)); refine blk_far ?_ NB220_221.out _; (with_reducible repeat (first | refine blk_drewN ?_ _ | refine blk_drew ?_ | refine blk_alloc ?_ _)); refine blk_put (cs := #[.int .i64 0, .string (⟨#[]⟩ : ByteArray), .int .i64 0, .int .i64 0]) ?_ 3 _ rfl; (with_reducible repeat (first | refine blk_drewN ?_ _ | refine blk_drew ?_ | refine blk_alloc ?_ _)); refine blk_put (cs := #[.int .i64 0, .string (⟨#[]⟩ : ByteArray), .int .i64 0, .int .i64 0]) ?_ 2 _ rfl; (with_reducible repeat (first | refine blk_drewN ?_ _ | refine blk_drew ?_ | refine blk_alloc ?_ _)); refine blk_put (cs := #[.int .i64 0, .string (⟨#[]⟩ : ByteArray), .int .i64 0, .int .i64 0]) ?_ 1 _ rfl; (with_reducible repeat (first | refine blk_drewN ?_ _ | refine blk_drew ?_ | refine blk_alloc ?_ _)); refine blk_put (cs := #[.int .i64 0, .string (⟨#[]⟩ : ByteArray), .int .i64 0, .int .i64 0]) ?_ 0 _ rfl; (with_reducible repeat (first | refine blk_drewN ?_ _ | refine blk_drew ?_ | refine blk_alloc ?_ _)); refine blk_far ?_ NB220_229.out _; (with_reducible repeat (first | refine blk_drewN ?_ _ | refine blk_drew ?_ | refine blk_alloc ?_ _)); refine blk_far ?_ NB220_229.out _; (with_reducible repeat (first | refine blk_drewN ?_ _ | refine blk_drew ?_ | refine blk_alloc ?_ _)); refine blk_far ?_ NB220_229.out _; (with_reducible repeat (first | refine blk_drewN ?_ _ | refine blk_drew ?_ | refine blk_alloc ?_ _)); refine blk_far ?_ NB220_229.out _; (with_reducible repeat (first | refine blk_drewN ?_ _ | refine blk_drew ?_ | refine blk_alloc ?_ _)); exact BK220.out) Tryd.underlying46 rfl (by kernel_rfl) (.tmp (.cell gb221 26 #[.int .i64 t228, .int .i64 t222] (0, 0) _ rfl (by (with_reducible repeat (first | refine blk_drewN ?_ _ | refine blk_drew ?_ | refine blk_alloc ?_ _)); refine blk_put (cs := #[.int .i64 t228, .int .i64 0]) ?_ 1 _ rfl; (with_reducible repeat (first | refine blk_drewN ?_ _ | refine blk_drew ?_ | refine blk_alloc ?_ _)); refine blk_put (cs := #[.int .i64 0, .int .i64 0]) ?_ 0 _ rfl; (with_reducible repeat (first | refine blk_drewN ?_ _ | refine blk_drew ?_ | refine blk_alloc ?_ _)); refine blk_far ?_ NB221_220.out _; (with_reducible repeat (first | refine blk_drewN ?_ _ | refine blk_drew ?_ | refine blk_alloc ?_ _)); refine blk_far ?_ NB221_220.out _; (with_reducible repeat (first | refine blk_drewN ?_ _ | refine blk_drew ?_ | refine blk_alloc ?_ _)); refine blk_far ?_ NB221_220.out _; (with_reducible repeat (first | refine blk_drewN ?_ _ | refine blk_drew ?_ | refine blk_alloc ?_ _)); refine blk_far ?_ NB221_220.out _; (with_reducible repeat (first | refine blk_drewN ?_ _ | refine blk_drew ?_ | refine blk_alloc ?_ _)); refine blk_far ?_ NB221_229.out _; (with_reducible repeat (first | refine blk_drewN ?_ _ | refine blk_drew ?_ | refine blk_alloc ?_ _)); refine blk_far ?_ NB221_229.out _; (with_reducible repeat (first | refine blk_drewN ?_ _ | refine blk_drew ?_ | refine blk_alloc ?_ _)); refine blk_far ?_ NB221_229.out _; (with_reducible repeat (first | refine blk_drewN ?_ _ | refine blk_drew ?_ | refine blk_alloc ?_ _)); refine blk_far ?_ NB221_229.out _; (with_reducible repeat (first | refine blk_drewN ?_ _ | refine blk_drew ?_ | refine blk_alloc ?_ _)); exact BK221.out) Tryd.underlying26 rfl (by kernel_rfl) .nil)))) rfl ?_
            exact ⟨er_, bl3_ HB.out GE220.out GE221.out GE229.out⟩
end Go.Proofs.YtkifdadhojbohaaDoor.Pr
namespace Go.Proofs.YtkifdadhojbohaaDoor.Pr
open Go.Proofs.YtkifdadhojbohaaDoor
open Go.RowKit Go.Proofs.YtkifdadhojbohaaDoorW.PrintWords Go.Proofs.YtkifdadhojbohaaDoorW.PrintLast Go.Proofs.YtkifdadhojbohaaDoorW.PrintMore
attribute [local go_sem] max2_int min2_int max_two min_two max_three min_three max_four min_four   -- for this text's walks alone
set_option linter.unusedVariables false
set_option linter.unusedSimpArgs false
/-! ### salchowref09_Lex: function 33 -/
def salchowref09_Lex.l0 : Nat → ByteArray → List (S46) → Int → Option ((List (S46)) × Int × Int)
  | 0, _, _, _ => none
  | k + 1, x0, x4, x5 => (salchowref09_Next.f k x0 x5).bind fun bt234 => (if bt234.2.2.2.2.2.1 = 0 then (if x4.length < 3518437208883 then ((some (x4 ++ [(⟨bt234.1, bt234.2.1, bt234.2.2.1, bt234.2.2.2.1⟩ : S46)] : List (S46))).bind fun y243 => (if bt234.1 = 5 then (some (y243, 0, 0)) else (salchowref09_Lex.l0 k x0 y243 bt234.2.2.2.2.1))) else (none)) else (some (([] : List (S46)), bt234.2.2.2.2.2.1, bt234.2.2.2.2.2.2)))
def salchowref09_Lex.f (k : Nat) (a0 : ByteArray) : Option ((List (S46)) × Int × Int) := salchowref09_Lex.l0 k a0 (([] : List (S46))) 0
theorem salchowref09_Lex.mono_l : ∀ k, (∀ y0 y1 y2, LeO (salchowref09_Lex.l0 k y0 y1 y2) (salchowref09_Lex.l0 (k + 1) y0 y1 y2))
  | 0 => fun _ _ _ r h => by simp [salchowref09_Lex.l0] at h
  | k + 1 => by
    have ih0 := salchowref09_Lex.mono_l k
    · intro y0 y1 y2
      unfold salchowref09_Lex.l0
      repeat' first
      | (with_reducible exact ih0 _ _ _)
      | (with_reducible exact salchowref09_Next.mono _ _ _)
      | (with_reducible exact LeO.refl _)
      | (with_reducible exact LeO.none _)
      | (with_reducible refine LeO.ite ?_ ?_)
      | (with_reducible refine LeO.bind ?_ (fun _ => ?_))
      | exact ih0 _ _ _
      | exact salchowref09_Next.mono _ _ _
      | exact LeO.none _
      | refine LeO.ite ?_ ?_
      | refine LeO.bind ?_ (fun _ => ?_)
theorem salchowref09_Lex.mono : ∀ a0 k, LeO (salchowref09_Lex.f k a0) (salchowref09_Lex.f (k + 1) a0) := by
  intro a0 k
  have ih0 := salchowref09_Lex.mono_l k
  unfold salchowref09_Lex.f
  repeat' first
      | (with_reducible exact ih0 _ _ _)
      | (with_reducible exact salchowref09_Next.mono _ _ _)
      | (with_reducible exact LeO.refl _)
      | (with_reducible exact LeO.none _)
      | (with_reducible refine LeO.ite ?_ ?_)
      | (with_reducible refine LeO.bind ?_ (fun _ => ?_))
      | exact ih0 _ _ _
      | exact salchowref09_Next.mono _ _ _
      | exact LeO.none _
      | refine LeO.ite ?_ ?_
      | refine LeO.bind ?_ (fun _ => ?_)
set_option maxHeartbeats 8000000 in
set_option maxRecDepth 100000 in
theorem salchowref09_Lex.calls (k : Nat) (a0 : ByteArray) (r1 : List (S46)) (r2 : Int) (r3 : Int) (w : World) (h : salchowref09_Lex.f k a0 = some (r1, r2, r3)) :
    Calls Tryd.prog 33 #[.string a0] w fun e w' => ∃ v0_ : Value, e = .returned (.tuple #[v0_, .agg #[.int .i64 r2, .int .i64 r3]]) ∧ Kd.R k46 46 w' w.heap.size (fun _ => True) v0_ r1 ∧ Below w.heap.size w w' := by
  have hu26 := Tryd.underlying26
  have hu46 := Tryd.underlying46
  have HB := Aside0.mk (Below.refl w.heap.size w)
  have H : (salchowref09_Lex.l0 k a0 (([] : List (S46))) 0) = some (r1, r2, r3) := h
  clear h
  obtain ⟨y231, hy231⟩ : ∃ y_ : List (S46), y_ = (([] : List (S46))) := ⟨_, rfl⟩
  replace H : (salchowref09_Lex.l0 k a0 y231 0) = some (r1, r2, r3) := by first | (rw [hy231]; with_reducible exact H) | (have H2_ := (Option.bind_some _ _).symm.trans H; rw [hy231]; with_reducible exact H2_) | (have H2_ := (Option.bind_some _ _).symm.trans H; with_reducible exact H2_) | with_reducible exact H | (rw [hy231]; exact H) | exact H
  have Ny231 := Aside0.mk hy231
  clear hy231
  have H' := Aside0.mk H
  clear H
  go_enter Tryd.func33, Tryd.ntmps33
  go_wp2_with (first | ((with_reducible refine gate_dst (N := 3) rfl ?_); refine box_event ?hg (N := 3) ?hd (cs := #[.int .i64 0, .int .i64 0]) (t := 26) ?hr ?_; (case hd => rfl); (case hg => rfl); (case hr => first | (go_simp; done) | (go_simp; rfl)); intro gb230 hg w2 hbox hb; have n0_ := Aside0.mk (below_step (bl_ HB.out) hb); have n1_ := Aside0.mk (hbox); have n2_ := Aside0.mk ((by rw [hg]; exact (below_size (bl_ HB.out)) : w.heap.size ≤ gb230)); have n3_ := Aside0.mk ((by rw [hg]; exact (below_size (bl_ HB.out)) : w.heap.size ≤ gb230)); clear HB; have HB := n0_; have BK230 := n1_; have GW230 := n2_; have GE230 := n3_; clear n0_ n1_ n2_ n3_; clear hb hbox hg) | ((with_reducible refine gate_dst (N := 9) rfl ?_); refine Kd.R_lit k46 _ 46 ?hg (N := 9) ?hd (xs := ([] : List (S46))) (inner := []) (ok := fun _ => True) (okp := fun _ => True) ?hr ?hp (fun _ hk => hk) trivial (Below.refl _ _) (Nat.le_refl _) (by simp) ?_; (case hd => rfl); (case hg => rfl); (case hr => first | (go_simp; done) | (go_simp; rfl)); (case hp => exact (Reps.none _ _)); intro v232 w3 ho4 hb hg_ hnew_; clear hg_ hnew_; (first | rw [← Ny231.out] at ho4 | (simp only [Int.reduceToNat] at ho4; rw [← Ny231.out] at ho4)); have n0_ := Aside0.mk (Kd.R_lower ho4 (below_size (bl1_ HB.out GE230.out))); have n1_ := Aside0.mk (blk_below (g := gb230) (o := .cells #[.int .i64 0, .int .i64 0] 26 (0, 0)) (bk_ BK230.out) hb); have n2_ := Aside0.mk (below_step (bl1_ HB.out GE230.out) hb); clear BK230; clear HB; have HO233 := n0_; have BK230 := n1_; have HB := n2_; clear n0_ n1_ n2_; clear hb ho4))
  go_loopg [4, 5] k (fun kq v4 v5 w' => ∃ (x4_1 : List (S46)) (x5_1 : Int) (x231000_1 : Int) (x231001_1 : Int), v5 = .int .i64 x5_1 ∧ Aside0 (salchowref09_Lex.l0 kq a0 x4_1 x5_1 = some (r1, r2, r3)) ∧ Aside0 (kq ≤ k) ∧ Aside0 (Kd.R k46 46 w' w.heap.size (fun _ => True) v4 x4_1) ∧ Aside0 (w'.heap[gb230]? = some (.cells #[.int .i64 x231000_1, .int .i64 x231001_1] 26 (0, 0))) ∧ Aside0 (Below w.heap.size w w'))
  case atStart => exact ⟨(y231), (0), (0), (0), (by first | rfl | (simp; done) | (simp [*]; done) | (simp <;> rfl)), H', ⟨Nat.le_refl _⟩, ⟨by (with_reducible repeat (first | apply Kd.R_alloc | apply Kd.R_drewN | apply Kd.R_drew)); exact HO233.out⟩, ⟨by (with_reducible repeat (first | refine blk_drewN ?_ _ | refine blk_drew ?_ | refine blk_alloc ?_ _)); exact BK230.out⟩, ⟨bl1_ HB.out GE230.out⟩⟩
  case round =>
    clear H'
    try clear p2
    try clear c3
    obtain ⟨x4_1, x5_1, x231000_1, x231001_1, rfl, HA, HK1, HO_4, BK230, HB⟩ := hrel
    cases gk with
    | zero => exact absurd HA.out (by simp [salchowref09_Lex.l0])
    | succ k1 =>
      have H := HA.out
      clear HA
      simp only [salchowref09_Lex.l0] at H
      replace H := Option.bind_eq_some_iff.mp H
      obtain ⟨⟨t234, t235, t236, t237, t238, t239, t240⟩, A50, H⟩ := H
      replace H : (if t239 = 0 then (if x4_1.length < 3518437208883 then ((some (x4_1 ++ [(⟨t234, t235, t236, t237⟩ : S46)] : List (S46))).bind fun y243 => (if t234 = 5 then (some (y243, 0, 0)) else (salchowref09_Lex.l0 k1 a0 y243 t238))) else (none)) else (some (([] : List (S46)), t239, t240))) = some (r1, r2, r3) := H
      have A5 := Aside0.mk A50
      clear A50
      by_cases c6 : t239 = 0
      · rw [if_pos c6] at H
        have c6b0 : (t239 == 0) = true := beq_iff_eq.mpr c6
        have c6b1 : (t239 != 0) = false := bne_eq_false_iff_eq.mpr c6
        clear c6
        by_cases c7 : x4_1.length < 3518437208883
        · rw [if_pos c7] at H
          have LMc7 := Aside0.mk c7
          clear c7
          obtain ⟨y243, hy243⟩ : ∃ y_ : List (S46), y_ = (x4_1 ++ [(⟨t234, t235, t236, t237⟩ : S46)]) := ⟨_, rfl⟩
          replace H : (if t234 = 5 then (some (y243, 0, 0)) else (salchowref09_Lex.l0 k1 a0 y243 t238)) = some (r1, r2, r3) := by first | (rw [hy243]; with_reducible exact H) | (have H2_ := (Option.bind_some _ _).symm.trans H; rw [hy243]; with_reducible exact H2_) | (have H2_ := (Option.bind_some _ _).symm.trans H; with_reducible exact H2_) | with_reducible exact H | (rw [hy243]; exact H) | exact H
          have Ny243 := Aside0.mk hy243
          clear hy243
          by_cases c8 : t234 = 5
          · rw [if_pos c8] at H
            have c8b0 : (t234 == 5) = true := beq_iff_eq.mpr c8
            have c8b1 : (t234 != 5) = false := bne_eq_false_iff_eq.mpr c8
            clear c8
            simp only [Option.some.injEq, Prod.mk.injEq] at H
            obtain ⟨rfl, rfl, rfl⟩ := H
            go_wp2_with (first | ((with_reducible refine gate_callee (f := 42) rfl ?_); refine goesL_ (some 13) rfl rfl Tryd.func42 (by kernel_rfl) rfl #[.string a0, .int .i64 x5_1] rfl (by (try simp only [List.map_toArray, List.map_cons, List.map_nil]); first | done | rfl | (simp only [List.length_drop, List.length_take]; rfl)) ?_; (with_reducible refine (salchowref09_Next.calls k1 a0 x5_1 t234 t235 t236 t237 t238 t239 t240 _ A5.out).mono ?_); rintro e w9 ⟨rfl, hb⟩; refine ⟨_, rfl, ?_⟩; have n0_ := Aside0.mk (Kd.R_below (by (with_reducible repeat (first | apply Kd.R_alloc | apply Kd.R_drewN | apply Kd.R_drew)); exact HO_4.out) hb); have n1_ := Aside0.mk (blk_below (g := gb230) (o := .cells #[.int .i64 x231000_1, .int .i64 x231001_1] 26 (0, 0)) (bk_ BK230.out) hb); have n2_ := Aside0.mk (below_step (bl1_ HB.out GE230.out) hb); clear HO_4; clear BK230; clear HB; have HO_4 := n0_; have BK230 := n1_; have HB := n2_; clear n0_ n1_ n2_; (try clear hb); (try clear hb2); (try clear hk); (try clear hi)) | ((with_reducible refine gate_dst (N := 6) rfl ?_); refine box_event ?hg (N := 6) ?hd (cs := #[.int .i64 0, .string (⟨#[]⟩ : ByteArray), .int .i64 0, .int .i64 0]) (t := 46) ?hr ?_; (case hd => rfl); (case hg => rfl); (case hr => first | (go_simp; done) | (go_simp; rfl)); intro gb241 hg w10 hbox hb; have n0_ := Aside0.mk (Kd.R_below (Kd.R_elderB (by (with_reducible repeat (first | apply Kd.R_alloc | apply Kd.R_drewN | apply Kd.R_drew)); exact HO_4.out) gb241 (Nat.le_of_eq hg.symm)) hb); have n1_ := Aside0.mk (blk_below (g := gb230) (o := .cells #[.int .i64 x231000_1, .int .i64 x231001_1] 26 (0, 0)) (bk_ BK230.out) hb); have n2_ := Aside0.mk (below_step (bl1_ HB.out GE230.out) hb); have n3_ := Aside0.mk (hbox); have n4_ := Aside0.mk ((by rw [hg]; exact (below_size (bl1_ HB.out GE230.out)) : w.heap.size ≤ gb241)); have n5_ := Aside0.mk ((by rw [hg]; exact (below_size (bl1_ HB.out GE230.out)) : w.heap.size ≤ gb241)); have n6_ := Aside0.mk ((by rw [hg]; exact Nat.ne_of_lt (blk_lt (g := gb230) (o := .cells #[.int .i64 x231000_1, .int .i64 x231001_1] 26 (0, 0)) (bk_ BK230.out)) : gb230 ≠ gb241)); have n7_ := Aside0.mk ((by rw [hg]; exact Nat.ne_of_gt (blk_lt (g := gb230) (o := .cells #[.int .i64 x231000_1, .int .i64 x231001_1] 26 (0, 0)) (bk_ BK230.out)) : gb241 ≠ gb230)); clear HO_4; clear BK230; clear HB; have HO_4 := n0_; have BK230 := n1_; have HB := n2_; have BK241 := n3_; have GW241 := n4_; have GE241 := n5_; have NB230_241 := n6_; have NB241_230 := n7_; clear n0_ n1_ n2_ n3_ n4_ n5_ n6_ n7_; clear hb hbox hg) | ((with_reducible refine gate_dst (N := 8) rfl ?_); refine box_event ?hg (N := 8) ?hd (cs := #[.int .i64 0, .int .i64 0]) (t := 26) ?hr ?_; (case hd => rfl); (case hg => rfl); (case hr => first | (go_simp; done) | (go_simp; rfl)); intro gb242 hg w11 hbox hb; have n0_ := Aside0.mk (Kd.R_below (by (with_reducible repeat (first | apply Kd.R_alloc | apply Kd.R_drewN | apply Kd.R_drew)); exact HO_4.out) hb); have n1_ := Aside0.mk (blk_below (g := gb230) (o := .cells #[.int .i64 x231000_1, .int .i64 x231001_1] 26 (0, 0)) (bk_ BK230.out) hb); have n2_ := Aside0.mk (blk_below (g := gb241) (o := .cells #[.int .i64 0, .string (⟨#[]⟩ : ByteArray), .int .i64 0, .int .i64 0] 46 (0, 0)) (bk_ BK241.out) hb); have n3_ := Aside0.mk (below_step (bl2_ HB.out GE230.out GE241.out) hb); have n4_ := Aside0.mk (hbox); have n5_ := Aside0.mk ((by rw [hg]; exact (below_size (bl2_ HB.out GE230.out GE241.out)) : w.heap.size ≤ gb242)); have n6_ := Aside0.mk ((by rw [hg]; exact (below_size (bl2_ HB.out GE230.out GE241.out)) : w.heap.size ≤ gb242)); have n7_ := Aside0.mk ((by rw [hg]; exact Nat.ne_of_lt (blk_lt (g := gb230) (o := .cells #[.int .i64 x231000_1, .int .i64 x231001_1] 26 (0, 0)) (bk_ BK230.out)) : gb230 ≠ gb242)); have n8_ := Aside0.mk ((by rw [hg]; exact Nat.ne_of_gt (blk_lt (g := gb230) (o := .cells #[.int .i64 x231000_1, .int .i64 x231001_1] 26 (0, 0)) (bk_ BK230.out)) : gb242 ≠ gb230)); have n9_ := Aside0.mk ((by rw [hg]; exact Nat.ne_of_lt (blk_lt (g := gb241) (o := .cells #[.int .i64 0, .string (⟨#[]⟩ : ByteArray), .int .i64 0, .int .i64 0] 46 (0, 0)) (bk_ BK241.out)) : gb241 ≠ gb242)); have n10_ := Aside0.mk ((by rw [hg]; exact Nat.ne_of_gt (blk_lt (g := gb241) (o := .cells #[.int .i64 0, .string (⟨#[]⟩ : ByteArray), .int .i64 0, .int .i64 0] 46 (0, 0)) (bk_ BK241.out)) : gb242 ≠ gb241)); clear HO_4; clear BK230; clear BK241; clear HB; have HO_4 := n0_; have BK230 := n1_; have BK241 := n2_; have HB := n3_; have BK242 := n4_; have GW242 := n5_; have GE242 := n6_; have NB230_242 := n7_; have NB242_230 := n8_; have NB241_242 := n9_; have NB242_241 := n10_; clear n0_ n1_ n2_ n3_ n4_ n5_ n6_ n7_ n8_ n9_ n10_; clear hb hbox hg; have hnb12 := NB241_230.out; have hnc12 := NB230_241.out; have hnb13 := NB241_242.out; have hnc13 := NB242_241.out; have hcz14_0 : w11.cell? ⟨gb241, 0, none⟩ = some (.int .i64 0) := (blk_cell BK241.out 0).trans rfl; have hcz14_1 : w11.cell? ⟨gb241, 1, none⟩ = some (.string (⟨#[]⟩ : ByteArray)) := (blk_cell BK241.out 1).trans rfl; have hcz14_2 : w11.cell? ⟨gb241, 2, none⟩ = some (.int .i64 0) := (blk_cell BK241.out 2).trans rfl; have hcz14_3 : w11.cell? ⟨gb241, 3, none⟩ = some (.int .i64 0) := (blk_cell BK241.out 3).trans rfl; have hfz14_0 := blk_frozen BK241.out 0; have hfz14_1 := blk_frozen BK241.out 1; have hfz14_2 := blk_frozen BK241.out 2; have hfz14_3 := blk_frozen BK241.out 3; have hnb15 := NB242_230.out; have hnc15 := NB230_242.out; have hcz16_0 : w11.cell? ⟨gb242, 0, none⟩ = some (.int .i64 0) := (blk_cell BK242.out 0).trans rfl; have hcz16_1 : w11.cell? ⟨gb242, 1, none⟩ = some (.int .i64 0) := (blk_cell BK242.out 1).trans rfl; have hfz16_0 := blk_frozen BK242.out 0; have hfz16_1 := blk_frozen BK242.out 1) | ((with_reducible refine gate_builtin (b := .append) (xs := #[.tmp 21, .tmp 23]) rfl ?_); at_builtin; refine Kd.R_append k46 (w0 := w) w.heap.size rfl (.tmp 21) (.tmp 23) 31 46 (.agg #[(.int .i64 0), (.string ⟨#[]⟩), (.int .i64 0), (.int .i64 0)]) 40 rfl Tryd.underlying31 info46 rfl (by decide) (by omega) u4 x4_1 (⟨t234, t235, t236, t237⟩ : S46) [.int .i64 t234, .string t235, .int .i64 t236, .int .i64 t237] (fun k_ => k_ ≠ gb241) (fun _ => False) rfl (by first | (go_simp; done) | (go_simp; rfl)) ?aP (fun _ hk => hk.elim) ?aF ?aO ?aB ?aS ?aL ?_; (case aP => exact k46_mkM _ _ _ (⟨t234, t235, t236, t237⟩ : S46)); (case aB => exact (bl3_ HB.out GE230.out GE241.out GE242.out)); (case aF => exact (fun k_ hk => Kd.freshB (g := gb241) (o := .cells #[.int .i64 t234, .string t235, .int .i64 t236, .int .i64 t237] 46 (0, 0)) (by (with_reducible repeat (first | refine blk_drewN ?_ _ | refine blk_drew ?_ | refine blk_alloc ?_ _)); refine blk_far ?_ NB241_242.out _; (with_reducible repeat (first | refine blk_drewN ?_ _ | refine blk_drew ?_ | refine blk_alloc ?_ _)); refine blk_far ?_ NB241_242.out _; (with_reducible repeat (first | refine blk_drewN ?_ _ | refine blk_drew ?_ | refine blk_alloc ?_ _)); refine blk_put (cs := #[.int .i64 t234, .string t235, .int .i64 t236, .int .i64 0]) ?_ 3 _ rfl; (with_reducible repeat (first | refine blk_drewN ?_ _ | refine blk_drew ?_ | refine blk_alloc ?_ _)); refine blk_put (cs := #[.int .i64 t234, .string t235, .int .i64 0, .int .i64 0]) ?_ 2 _ rfl; (with_reducible repeat (first | refine blk_drewN ?_ _ | refine blk_drew ?_ | refine blk_alloc ?_ _)); refine blk_put (cs := #[.int .i64 t234, .string (⟨#[]⟩ : ByteArray), .int .i64 0, .int .i64 0]) ?_ 1 _ rfl; (with_reducible repeat (first | refine blk_drewN ?_ _ | refine blk_drew ?_ | refine blk_alloc ?_ _)); refine blk_put (cs := #[.int .i64 0, .string (⟨#[]⟩ : ByteArray), .int .i64 0, .int .i64 0]) ?_ 0 _ rfl; (with_reducible repeat (first | refine blk_drewN ?_ _ | refine blk_drew ?_ | refine blk_alloc ?_ _)); exact BK241.out) k_ hk)); (case aO => exact (by (with_reducible repeat (first | apply Kd.R_alloc | apply Kd.R_drewN | apply Kd.R_drew)); exact Kd.R_mono (Kd.R_far (p := ⟨gb242, 1, none⟩) (Kd.R_far (p := ⟨gb242, 0, none⟩) (Kd.R_far (p := ⟨gb241, 3, none⟩) (Kd.R_far (p := ⟨gb241, 2, none⟩) (Kd.R_far (p := ⟨gb241, 1, none⟩) (Kd.R_far (p := ⟨gb241, 0, none⟩) (Kd.R_types (Kd.R_mono HO_4.out (fun k_ hk => (⟨hk, hk.2⟩ : _ ∧ k_ ≠ gb241))) BK242.out (by decide)) (fun _ hk => hk.1.2) (.int .i64 t234)) (fun _ hk => hk.1.2) (.string t235)) (fun _ hk => hk.1.2) (.int .i64 t236)) (fun _ hk => hk.1.2) (.int .i64 t237)) (fun _ hk => hk.2) (.int .i64 t239)) (fun _ hk => hk.2) (.int .i64 t240)) (fun _ hk => hk.1.1.2))); (case aS => exact (below_size (bl3_ HB.out GE230.out GE241.out GE242.out))); (case aL => have := LMc7.out; omega); intro v244 w17 ho hb hg hat; rw [← Ny243.out] at ho; have n0_ := Aside0.mk (blk_grown (g := gb230) (o := .cells #[.int .i64 x231000_1, .int .i64 x231001_1] 26 (0, 0)) (by (with_reducible repeat (first | refine blk_drewN ?_ _ | refine blk_drew ?_ | refine blk_alloc ?_ _)); refine blk_far ?_ NB230_242.out _; (with_reducible repeat (first | refine blk_drewN ?_ _ | refine blk_drew ?_ | refine blk_alloc ?_ _)); refine blk_far ?_ NB230_242.out _; (with_reducible repeat (first | refine blk_drewN ?_ _ | refine blk_drew ?_ | refine blk_alloc ?_ _)); refine blk_far ?_ NB230_241.out _; (with_reducible repeat (first | refine blk_drewN ?_ _ | refine blk_drew ?_ | refine blk_alloc ?_ _)); refine blk_far ?_ NB230_241.out _; (with_reducible repeat (first | refine blk_drewN ?_ _ | refine blk_drew ?_ | refine blk_alloc ?_ _)); refine blk_far ?_ NB230_241.out _; (with_reducible repeat (first | refine blk_drewN ?_ _ | refine blk_drew ?_ | refine blk_alloc ?_ _)); refine blk_far ?_ NB230_241.out _; (with_reducible repeat (first | refine blk_drewN ?_ _ | refine blk_drew ?_ | refine blk_alloc ?_ _)); exact BK230.out) hg (Kd.R_ne HO_4.out BK230.out (by decide))); have n1_ := Aside0.mk (blk_grown (g := gb241) (o := .cells #[.int .i64 t234, .string t235, .int .i64 t236, .int .i64 t237] 46 (0, 0)) (by (with_reducible repeat (first | refine blk_drewN ?_ _ | refine blk_drew ?_ | refine blk_alloc ?_ _)); refine blk_far ?_ NB241_242.out _; (with_reducible repeat (first | refine blk_drewN ?_ _ | refine blk_drew ?_ | refine blk_alloc ?_ _)); refine blk_far ?_ NB241_242.out _; (with_reducible repeat (first | refine blk_drewN ?_ _ | refine blk_drew ?_ | refine blk_alloc ?_ _)); refine blk_put (cs := #[.int .i64 t234, .string t235, .int .i64 t236, .int .i64 0]) ?_ 3 _ rfl; (with_reducible repeat (first | refine blk_drewN ?_ _ | refine blk_drew ?_ | refine blk_alloc ?_ _)); refine blk_put (cs := #[.int .i64 t234, .string t235, .int .i64 0, .int .i64 0]) ?_ 2 _ rfl; (with_reducible repeat (first | refine blk_drewN ?_ _ | refine blk_drew ?_ | refine blk_alloc ?_ _)); refine blk_put (cs := #[.int .i64 t234, .string (⟨#[]⟩ : ByteArray), .int .i64 0, .int .i64 0]) ?_ 1 _ rfl; (with_reducible repeat (first | refine blk_drewN ?_ _ | refine blk_drew ?_ | refine blk_alloc ?_ _)); refine blk_put (cs := #[.int .i64 0, .string (⟨#[]⟩ : ByteArray), .int .i64 0, .int .i64 0]) ?_ 0 _ rfl; (with_reducible repeat (first | refine blk_drewN ?_ _ | refine blk_drew ?_ | refine blk_alloc ?_ _)); exact BK241.out) hg (Kd.R_away HO_4.out (fun _ hk => hk.2))); have n2_ := Aside0.mk (blk_grown (g := gb242) (o := .cells #[.int .i64 t239, .int .i64 t240] 26 (0, 0)) (by (with_reducible repeat (first | refine blk_drewN ?_ _ | refine blk_drew ?_ | refine blk_alloc ?_ _)); refine blk_put (cs := #[.int .i64 t239, .int .i64 0]) ?_ 1 _ rfl; (with_reducible repeat (first | refine blk_drewN ?_ _ | refine blk_drew ?_ | refine blk_alloc ?_ _)); refine blk_put (cs := #[.int .i64 0, .int .i64 0]) ?_ 0 _ rfl; (with_reducible repeat (first | refine blk_drewN ?_ _ | refine blk_drew ?_ | refine blk_alloc ?_ _)); refine blk_far ?_ NB242_241.out _; (with_reducible repeat (first | refine blk_drewN ?_ _ | refine blk_drew ?_ | refine blk_alloc ?_ _)); refine blk_far ?_ NB242_241.out _; (with_reducible repeat (first | refine blk_drewN ?_ _ | refine blk_drew ?_ | refine blk_alloc ?_ _)); refine blk_far ?_ NB242_241.out _; (with_reducible repeat (first | refine blk_drewN ?_ _ | refine blk_drew ?_ | refine blk_alloc ?_ _)); refine blk_far ?_ NB242_241.out _; (with_reducible repeat (first | refine blk_drewN ?_ _ | refine blk_drew ?_ | refine blk_alloc ?_ _)); exact BK242.out) hg (Kd.R_ne HO_4.out BK242.out (by decide))); have n3_ := Aside0.mk (hb); have n4_ := Aside0.mk (ho); clear BK230; clear BK241; clear BK242; clear HB; clear HO_4; have BK230 := n0_; have BK241 := n1_; have BK242 := n2_; have HB := n3_; have HO245 := n4_; clear n0_ n1_ n2_ n3_ n4_; clear ho hb hg hat; have hcz18_0 : w17.cell? ⟨gb241, 0, none⟩ = some (.int .i64 t234) := (blk_cell BK241.out 0).trans rfl; have hcz18_1 : w17.cell? ⟨gb241, 1, none⟩ = some (.string t235) := (blk_cell BK241.out 1).trans rfl; have hcz18_2 : w17.cell? ⟨gb241, 2, none⟩ = some (.int .i64 t236) := (blk_cell BK241.out 2).trans rfl; have hcz18_3 : w17.cell? ⟨gb241, 3, none⟩ = some (.int .i64 t237) := (blk_cell BK241.out 3).trans rfl; have hfz18_0 := blk_frozen BK241.out 0; have hfz18_1 := blk_frozen BK241.out 1; have hfz18_2 := blk_frozen BK241.out 2; have hfz18_3 := blk_frozen BK241.out 3; have hcz19_0 : w17.cell? ⟨gb230, 0, none⟩ = some (.int .i64 x231000_1) := (blk_cell BK230.out 0).trans rfl; have hcz19_1 : w17.cell? ⟨gb230, 1, none⟩ = some (.int .i64 x231001_1) := (blk_cell BK230.out 1).trans rfl; have hfz19_0 := blk_frozen BK230.out 0; have hfz19_1 := blk_frozen BK230.out 1))
            refine bodyPost_ret (results_tc rfl _ _ gb230 26 #[.int .i64 0, .int .i64 0] (0, 0) _ rfl (by (with_reducible repeat (first | refine blk_drewN ?_ _ | refine blk_drew ?_ | refine blk_alloc ?_ _)); refine blk_put (cs := #[.int .i64 0, .int .i64 x231001_1]) ?_ 1 _ rfl; (with_reducible repeat (first | refine blk_drewN ?_ _ | refine blk_drew ?_ | refine blk_alloc ?_ _)); refine blk_put (cs := #[.int .i64 x231000_1, .int .i64 x231001_1]) ?_ 0 _ rfl; (with_reducible repeat (first | refine blk_drewN ?_ _ | refine blk_drew ?_ | refine blk_alloc ?_ _)); exact BK230.out) Tryd.underlying26 rfl (by kernel_rfl)) rfl ?_
            exact ⟨_, er_, by (with_reducible repeat (first | apply Kd.R_alloc | apply Kd.R_drewN | apply Kd.R_drew)); exact Kd.R_mono (Kd.R_far (p := ⟨gb230, 1, none⟩) (Kd.R_far (p := ⟨gb230, 0, none⟩) (Kd.R_types HO245.out BK230.out (by decide)) (fun _ hk => hk.2) (.int .i64 0)) (fun _ hk => hk.2) (.int .i64 0)) (fun _ hk => trivial), bl3_ HB.out GE230.out GE241.out GE242.out⟩
          · rw [if_neg c8] at H
            have c8b0 : (t234 == 5) = false := beq_eq_false_iff_ne.mpr c8
            have c8b1 : (t234 != 5) = true := bne_iff_ne.mpr c8
            have H' := Aside0.mk H
            clear H
            go_wp2_with (first | ((with_reducible refine gate_callee (f := 42) rfl ?_); refine goesL_ (some 13) rfl rfl Tryd.func42 (by kernel_rfl) rfl #[.string a0, .int .i64 x5_1] rfl (by (try simp only [List.map_toArray, List.map_cons, List.map_nil]); first | done | rfl | (simp only [List.length_drop, List.length_take]; rfl)) ?_; (with_reducible refine (salchowref09_Next.calls k1 a0 x5_1 t234 t235 t236 t237 t238 t239 t240 _ A5.out).mono ?_); rintro e w20 ⟨rfl, hb⟩; refine ⟨_, rfl, ?_⟩; have n0_ := Aside0.mk (Kd.R_below (by (with_reducible repeat (first | apply Kd.R_alloc | apply Kd.R_drewN | apply Kd.R_drew)); exact HO_4.out) hb); have n1_ := Aside0.mk (blk_below (g := gb230) (o := .cells #[.int .i64 x231000_1, .int .i64 x231001_1] 26 (0, 0)) (bk_ BK230.out) hb); have n2_ := Aside0.mk (below_step (bl1_ HB.out GE230.out) hb); clear HO_4; clear BK230; clear HB; have HO_4 := n0_; have BK230 := n1_; have HB := n2_; clear n0_ n1_ n2_; (try clear hb); (try clear hb2); (try clear hk); (try clear hi)) | ((with_reducible refine gate_dst (N := 6) rfl ?_); refine box_event ?hg (N := 6) ?hd (cs := #[.int .i64 0, .string (⟨#[]⟩ : ByteArray), .int .i64 0, .int .i64 0]) (t := 46) ?hr ?_; (case hd => rfl); (case hg => rfl); (case hr => first | (go_simp; done) | (go_simp; rfl)); intro gb241 hg w21 hbox hb; have n0_ := Aside0.mk (Kd.R_below (Kd.R_elderB (by (with_reducible repeat (first | apply Kd.R_alloc | apply Kd.R_drewN | apply Kd.R_drew)); exact HO_4.out) gb241 (Nat.le_of_eq hg.symm)) hb); have n1_ := Aside0.mk (blk_below (g := gb230) (o := .cells #[.int .i64 x231000_1, .int .i64 x231001_1] 26 (0, 0)) (bk_ BK230.out) hb); have n2_ := Aside0.mk (below_step (bl1_ HB.out GE230.out) hb); have n3_ := Aside0.mk (hbox); have n4_ := Aside0.mk ((by rw [hg]; exact (below_size (bl1_ HB.out GE230.out)) : w.heap.size ≤ gb241)); have n5_ := Aside0.mk ((by rw [hg]; exact (below_size (bl1_ HB.out GE230.out)) : w.heap.size ≤ gb241)); have n6_ := Aside0.mk ((by rw [hg]; exact Nat.ne_of_lt (blk_lt (g := gb230) (o := .cells #[.int .i64 x231000_1, .int .i64 x231001_1] 26 (0, 0)) (bk_ BK230.out)) : gb230 ≠ gb241)); have n7_ := Aside0.mk ((by rw [hg]; exact Nat.ne_of_gt (blk_lt (g := gb230) (o := .cells #[.int .i64 x231000_1, .int .i64 x231001_1] 26 (0, 0)) (bk_ BK230.out)) : gb241 ≠ gb230)); clear HO_4; clear BK230; clear HB; have HO_4 := n0_; have BK230 := n1_; have HB := n2_; have BK241 := n3_; have GW241 := n4_; have GE241 := n5_; have NB230_241 := n6_; have NB241_230 := n7_; clear n0_ n1_ n2_ n3_ n4_ n5_ n6_ n7_; clear hb hbox hg) | ((with_reducible refine gate_dst (N := 8) rfl ?_); refine box_event ?hg (N := 8) ?hd (cs := #[.int .i64 0, .int .i64 0]) (t := 26) ?hr ?_; (case hd => rfl); (case hg => rfl); (case hr => first | (go_simp; done) | (go_simp; rfl)); intro gb242 hg w22 hbox hb; have n0_ := Aside0.mk (Kd.R_below (by (with_reducible repeat (first | apply Kd.R_alloc | apply Kd.R_drewN | apply Kd.R_drew)); exact HO_4.out) hb); have n1_ := Aside0.mk (blk_below (g := gb230) (o := .cells #[.int .i64 x231000_1, .int .i64 x231001_1] 26 (0, 0)) (bk_ BK230.out) hb); have n2_ := Aside0.mk (blk_below (g := gb241) (o := .cells #[.int .i64 0, .string (⟨#[]⟩ : ByteArray), .int .i64 0, .int .i64 0] 46 (0, 0)) (bk_ BK241.out) hb); have n3_ := Aside0.mk (below_step (bl2_ HB.out GE230.out GE241.out) hb); have n4_ := Aside0.mk (hbox); have n5_ := Aside0.mk ((by rw [hg]; exact (below_size (bl2_ HB.out GE230.out GE241.out)) : w.heap.size ≤ gb242)); have n6_ := Aside0.mk ((by rw [hg]; exact (below_size (bl2_ HB.out GE230.out GE241.out)) : w.heap.size ≤ gb242)); have n7_ := Aside0.mk ((by rw [hg]; exact Nat.ne_of_lt (blk_lt (g := gb230) (o := .cells #[.int .i64 x231000_1, .int .i64 x231001_1] 26 (0, 0)) (bk_ BK230.out)) : gb230 ≠ gb242)); have n8_ := Aside0.mk ((by rw [hg]; exact Nat.ne_of_gt (blk_lt (g := gb230) (o := .cells #[.int .i64 x231000_1, .int .i64 x231001_1] 26 (0, 0)) (bk_ BK230.out)) : gb242 ≠ gb230)); have n9_ := Aside0.mk ((by rw [hg]; exact Nat.ne_of_lt (blk_lt (g := gb241) (o := .cells #[.int .i64 0, .string (⟨#[]⟩ : ByteArray), .int .i64 0, .int .i64 0] 46 (0, 0)) (bk_ BK241.out)) : gb241 ≠ gb242)); have n10_ := Aside0.mk ((by rw [hg]; exact Nat.ne_of_gt (blk_lt (g := gb241) (o := .cells #[.int .i64 0, .string (⟨#[]⟩ : ByteArray), .int .i64 0, .int .i64 0] 46 (0, 0)) (bk_ BK241.out)) : gb242 ≠ gb241)); clear HO_4; clear BK230; clear BK241; clear HB; have HO_4 := n0_; have BK230 := n1_; have BK241 := n2_; have HB := n3_; have BK242 := n4_; have GW242 := n5_; have GE242 := n6_; have NB230_242 := n7_; have NB242_230 := n8_; have NB241_242 := n9_; have NB242_241 := n10_; clear n0_ n1_ n2_ n3_ n4_ n5_ n6_ n7_ n8_ n9_ n10_; clear hb hbox hg; have hnb23 := NB241_230.out; have hnc23 := NB230_241.out; have hnb24 := NB241_242.out; have hnc24 := NB242_241.out; have hcz25_0 : w22.cell? ⟨gb241, 0, none⟩ = some (.int .i64 0) := (blk_cell BK241.out 0).trans rfl; have hcz25_1 : w22.cell? ⟨gb241, 1, none⟩ = some (.string (⟨#[]⟩ : ByteArray)) := (blk_cell BK241.out 1).trans rfl; have hcz25_2 : w22.cell? ⟨gb241, 2, none⟩ = some (.int .i64 0) := (blk_cell BK241.out 2).trans rfl; have hcz25_3 : w22.cell? ⟨gb241, 3, none⟩ = some (.int .i64 0) := (blk_cell BK241.out 3).trans rfl; have hfz25_0 := blk_frozen BK241.out 0; have hfz25_1 := blk_frozen BK241.out 1; have hfz25_2 := blk_frozen BK241.out 2; have hfz25_3 := blk_frozen BK241.out 3; have hnb26 := NB242_230.out; have hnc26 := NB230_242.out; have hcz27_0 : w22.cell? ⟨gb242, 0, none⟩ = some (.int .i64 0) := (blk_cell BK242.out 0).trans rfl; have hcz27_1 : w22.cell? ⟨gb242, 1, none⟩ = some (.int .i64 0) := (blk_cell BK242.out 1).trans rfl; have hfz27_0 := blk_frozen BK242.out 0; have hfz27_1 := blk_frozen BK242.out 1) | ((with_reducible refine gate_builtin (b := .append) (xs := #[.tmp 21, .tmp 23]) rfl ?_); at_builtin; refine Kd.R_append k46 (w0 := w) w.heap.size rfl (.tmp 21) (.tmp 23) 31 46 (.agg #[(.int .i64 0), (.string ⟨#[]⟩), (.int .i64 0), (.int .i64 0)]) 40 rfl Tryd.underlying31 info46 rfl (by decide) (by omega) u4 x4_1 (⟨t234, t235, t236, t237⟩ : S46) [.int .i64 t234, .string t235, .int .i64 t236, .int .i64 t237] (fun k_ => k_ ≠ gb241) (fun _ => False) rfl (by first | (go_simp; done) | (go_simp; rfl)) ?aP (fun _ hk => hk.elim) ?aF ?aO ?aB ?aS ?aL ?_; (case aP => exact k46_mkM _ _ _ (⟨t234, t235, t236, t237⟩ : S46)); (case aB => exact (bl3_ HB.out GE230.out GE241.out GE242.out)); (case aF => exact (fun k_ hk => Kd.freshB (g := gb241) (o := .cells #[.int .i64 t234, .string t235, .int .i64 t236, .int .i64 t237] 46 (0, 0)) (by (with_reducible repeat (first | refine blk_drewN ?_ _ | refine blk_drew ?_ | refine blk_alloc ?_ _)); refine blk_far ?_ NB241_242.out _; (with_reducible repeat (first | refine blk_drewN ?_ _ | refine blk_drew ?_ | refine blk_alloc ?_ _)); refine blk_far ?_ NB241_242.out _; (with_reducible repeat (first | refine blk_drewN ?_ _ | refine blk_drew ?_ | refine blk_alloc ?_ _)); refine blk_put (cs := #[.int .i64 t234, .string t235, .int .i64 t236, .int .i64 0]) ?_ 3 _ rfl; (with_reducible repeat (first | refine blk_drewN ?_ _ | refine blk_drew ?_ | refine blk_alloc ?_ _)); refine blk_put (cs := #[.int .i64 t234, .string t235, .int .i64 0, .int .i64 0]) ?_ 2 _ rfl; (with_reducible repeat (first | refine blk_drewN ?_ _ | refine blk_drew ?_ | refine blk_alloc ?_ _)); refine blk_put (cs := #[.int .i64 t234, .string (⟨#[]⟩ : ByteArray), .int .i64 0, .int .i64 0]) ?_ 1 _ rfl; (with_reducible repeat (first | refine blk_drewN ?_ _ | refine blk_drew ?_ | refine blk_alloc ?_ _)); refine blk_put (cs := #[.int .i64 0, .string (⟨#[]⟩ : ByteArray), .int .i64 0, .int .i64 0]) ?_ 0 _ rfl; (with_reducible repeat (first | refine blk_drewN ?_ _ | refine blk_drew ?_ | refine blk_alloc ?_ _)); exact BK241.out) k_ hk)); (case aO => exact (by (with_reducible repeat (first | apply Kd.R_alloc | apply Kd.R_drewN | apply Kd.R_drew)); exact Kd.R_mono (Kd.R_far (p := ⟨gb242, 1, none⟩) (Kd.R_far (p := ⟨gb242, 0, none⟩) (Kd.R_far (p := ⟨gb241, 3, none⟩) (Kd.R_far (p := ⟨gb241, 2, none⟩) (Kd.R_far (p := ⟨gb241, 1, none⟩) (Kd.R_far (p := ⟨gb241, 0, none⟩) (Kd.R_types (Kd.R_mono HO_4.out (fun k_ hk => (⟨hk, hk.2⟩ : _ ∧ k_ ≠ gb241))) BK242.out (by decide)) (fun _ hk => hk.1.2) (.int .i64 t234)) (fun _ hk => hk.1.2) (.string t235)) (fun _ hk => hk.1.2) (.int .i64 t236)) (fun _ hk => hk.1.2) (.int .i64 t237)) (fun _ hk => hk.2) (.int .i64 t239)) (fun _ hk => hk.2) (.int .i64 t240)) (fun _ hk => hk.1.1.2))); (case aS => exact (below_size (bl3_ HB.out GE230.out GE241.out GE242.out))); (case aL => have := LMc7.out; omega); intro v244 w28 ho hb hg hat; rw [← Ny243.out] at ho; have n0_ := Aside0.mk (blk_grown (g := gb230) (o := .cells #[.int .i64 x231000_1, .int .i64 x231001_1] 26 (0, 0)) (by (with_reducible repeat (first | refine blk_drewN ?_ _ | refine blk_drew ?_ | refine blk_alloc ?_ _)); refine blk_far ?_ NB230_242.out _; (with_reducible repeat (first | refine blk_drewN ?_ _ | refine blk_drew ?_ | refine blk_alloc ?_ _)); refine blk_far ?_ NB230_242.out _; (with_reducible repeat (first | refine blk_drewN ?_ _ | refine blk_drew ?_ | refine blk_alloc ?_ _)); refine blk_far ?_ NB230_241.out _; (with_reducible repeat (first | refine blk_drewN ?_ _ | refine blk_drew ?_ | refine blk_alloc ?_ _)); refine blk_far ?_ NB230_241.out _; (with_reducible repeat (first | refine blk_drewN ?_ _ | refine blk_drew ?_ | refine blk_alloc ?_ _)); refine blk_far ?_ NB230_241.out _; (with_reducible repeat (first | refine blk_drewN ?_ _ | refine blk_drew ?_ | refine blk_alloc ?_ _)); refine blk_far ?_ NB230_241.out _; (with_reducible repeat (first | refine blk_drewN ?_ _ | refine blk_drew ?_ | refine blk_alloc ?_ _)); exact BK230.out) hg (Kd.R_ne HO_4.out BK230.out (by decide))); have n1_ := Aside0.mk (blk_grown (g := gb241) (o := .cells #[.int .i64 t234, .string t235, .int .i64 t236, .int .i64 t237] 46 (0, 0)) (by (with_reducible repeat (first | refine blk_drewN ?_ _ | refine blk_drew ?_ | refine blk_alloc ?_ _)); refine blk_far ?_ NB241_242.out _; (with_reducible repeat (first | refine blk_drewN ?_ _ | refine blk_drew ?_ | refine blk_alloc ?_ _)); refine blk_far ?_ NB241_242.out _; (with_reducible repeat (first | refine blk_drewN ?_ _ | refine blk_drew ?_ | refine blk_alloc ?_ _)); refine blk_put (cs := #[.int .i64 t234, .string t235, .int .i64 t236, .int .i64 0]) ?_ 3 _ rfl; (with_reducible repeat (first | refine blk_drewN ?_ _ | refine blk_drew ?_ | refine blk_alloc ?_ _)); refine blk_put (cs := #[.int .i64 t234, .string t235, .int .i64 0, .int .i64 0]) ?_ 2 _ rfl; (with_reducible repeat (first | refine blk_drewN ?_ _ | refine blk_drew ?_ | refine blk_alloc ?_ _)); refine blk_put (cs := #[.int .i64 t234, .string (⟨#[]⟩ : ByteArray), .int .i64 0, .int .i64 0]) ?_ 1 _ rfl; (with_reducible repeat (first | refine blk_drewN ?_ _ | refine blk_drew ?_ | refine blk_alloc ?_ _)); refine blk_put (cs := #[.int .i64 0, .string (⟨#[]⟩ : ByteArray), .int .i64 0, .int .i64 0]) ?_ 0 _ rfl; (with_reducible repeat (first | refine blk_drewN ?_ _ | refine blk_drew ?_ | refine blk_alloc ?_ _)); exact BK241.out) hg (Kd.R_away HO_4.out (fun _ hk => hk.2))); have n2_ := Aside0.mk (blk_grown (g := gb242) (o := .cells #[.int .i64 t239, .int .i64 t240] 26 (0, 0)) (by (with_reducible repeat (first | refine blk_drewN ?_ _ | refine blk_drew ?_ | refine blk_alloc ?_ _)); refine blk_put (cs := #[.int .i64 t239, .int .i64 0]) ?_ 1 _ rfl; (with_reducible repeat (first | refine blk_drewN ?_ _ | refine blk_drew ?_ | refine blk_alloc ?_ _)); refine blk_put (cs := #[.int .i64 0, .int .i64 0]) ?_ 0 _ rfl; (with_reducible repeat (first | refine blk_drewN ?_ _ | refine blk_drew ?_ | refine blk_alloc ?_ _)); refine blk_far ?_ NB242_241.out _; (with_reducible repeat (first | refine blk_drewN ?_ _ | refine blk_drew ?_ | refine blk_alloc ?_ _)); refine blk_far ?_ NB242_241.out _; (with_reducible repeat (first | refine blk_drewN ?_ _ | refine blk_drew ?_ | refine blk_alloc ?_ _)); refine blk_far ?_ NB242_241.out _; (with_reducible repeat (first | refine blk_drewN ?_ _ | refine blk_drew ?_ | refine blk_alloc ?_ _)); refine blk_far ?_ NB242_241.out _; (with_reducible repeat (first | refine blk_drewN ?_ _ | refine blk_drew ?_ | refine blk_alloc ?_ _)); exact BK242.out) hg (Kd.R_ne HO_4.out BK242.out (by decide))); have n3_ := Aside0.mk (hb); have n4_ := Aside0.mk (ho); clear BK230; clear BK241; clear BK242; clear HB; clear HO_4; have BK230 := n0_; have BK241 := n1_; have BK242 := n2_; have HB := n3_; have HO245 := n4_; clear n0_ n1_ n2_ n3_ n4_; clear ho hb hg hat; have hcz29_0 : w28.cell? ⟨gb241, 0, none⟩ = some (.int .i64 t234) := (blk_cell BK241.out 0).trans rfl; have hcz29_1 : w28.cell? ⟨gb241, 1, none⟩ = some (.string t235) := (blk_cell BK241.out 1).trans rfl; have hcz29_2 : w28.cell? ⟨gb241, 2, none⟩ = some (.int .i64 t236) := (blk_cell BK241.out 2).trans rfl; have hcz29_3 : w28.cell? ⟨gb241, 3, none⟩ = some (.int .i64 t237) := (blk_cell BK241.out 3).trans rfl; have hfz29_0 := blk_frozen BK241.out 0; have hfz29_1 := blk_frozen BK241.out 1; have hfz29_2 := blk_frozen BK241.out 2; have hfz29_3 := blk_frozen BK241.out 3))
            go_roundg k1
            case measure => have := HK1.out; omega
            case rel => exact ⟨(y243), (t238), (x231000_1), (x231001_1), (by first | rfl | (simp; done) | (simp [*]; done) | (simp <;> rfl)), H', ⟨by have := HK1.out; omega⟩, ⟨by (with_reducible repeat (first | apply Kd.R_alloc | apply Kd.R_drewN | apply Kd.R_drew)); exact Kd.R_mono HO245.out (fun _ hk => trivial)⟩, ⟨by (with_reducible repeat (first | refine blk_drewN ?_ _ | refine blk_drew ?_ | refine blk_alloc ?_ _)); exact BK230.out⟩, ⟨bl3_ HB.out GE230.out GE241.out GE242.out⟩⟩
        · rw [if_neg c7] at H
          exact absurd H (by simp)
      · rw [if_neg c6] at H
        have c6b0 : (t239 == 0) = false := beq_eq_false_iff_ne.mpr c6
        have c6b1 : (t239 != 0) = true := bne_iff_ne.mpr c6
        simp only [Option.some.injEq, Prod.mk.injEq] at H
        obtain ⟨rfl, rfl, rfl⟩ := H
        try go_wp2_with (first | ((with_reducible refine gate_callee (f := 42) rfl ?_); refine goesL_ (some 13) rfl rfl Tryd.func42 (by kernel_rfl) rfl #[.string a0, .int .i64 x5_1] rfl (by (try simp only [List.map_toArray, List.map_cons, List.map_nil]); first | done | rfl | (simp only [List.length_drop, List.length_take]; rfl)) ?_; (with_reducible refine (salchowref09_Next.calls k1 a0 x5_1 t234 t235 t236 t237 t238 t239 t240 _ A5.out).mono ?_); rintro e w30 ⟨rfl, hb⟩; refine ⟨_, rfl, ?_⟩; have n0_ := Aside0.mk (Kd.R_below (by (with_reducible repeat (first | apply Kd.R_alloc | apply Kd.R_drewN | apply Kd.R_drew)); exact HO_4.out) hb); have n1_ := Aside0.mk (blk_below (g := gb230) (o := .cells #[.int .i64 x231000_1, .int .i64 x231001_1] 26 (0, 0)) (bk_ BK230.out) hb); have n2_ := Aside0.mk (below_step (bl1_ HB.out GE230.out) hb); clear HO_4; clear BK230; clear HB; have HO_4 := n0_; have BK230 := n1_; have HB := n2_; clear n0_ n1_ n2_; (try clear hb); (try clear hb2); (try clear hk); (try clear hi)) | ((with_reducible refine gate_dst (N := 6) rfl ?_); refine box_event ?hg (N := 6) ?hd (cs := #[.int .i64 0, .string (⟨#[]⟩ : ByteArray), .int .i64 0, .int .i64 0]) (t := 46) ?hr ?_; (case hd => rfl); (case hg => rfl); (case hr => first | (go_simp; done) | (go_simp; rfl)); intro gb241 hg w31 hbox hb; have n0_ := Aside0.mk (Kd.R_below (Kd.R_elderB (by (with_reducible repeat (first | apply Kd.R_alloc | apply Kd.R_drewN | apply Kd.R_drew)); exact HO_4.out) gb241 (Nat.le_of_eq hg.symm)) hb); have n1_ := Aside0.mk (blk_below (g := gb230) (o := .cells #[.int .i64 x231000_1, .int .i64 x231001_1] 26 (0, 0)) (bk_ BK230.out) hb); have n2_ := Aside0.mk (below_step (bl1_ HB.out GE230.out) hb); have n3_ := Aside0.mk (hbox); have n4_ := Aside0.mk ((by rw [hg]; exact (below_size (bl1_ HB.out GE230.out)) : w.heap.size ≤ gb241)); have n5_ := Aside0.mk ((by rw [hg]; exact (below_size (bl1_ HB.out GE230.out)) : w.heap.size ≤ gb241)); have n6_ := Aside0.mk ((by rw [hg]; exact Nat.ne_of_lt (blk_lt (g := gb230) (o := .cells #[.int .i64 x231000_1, .int .i64 x231001_1] 26 (0, 0)) (bk_ BK230.out)) : gb230 ≠ gb241)); have n7_ := Aside0.mk ((by rw [hg]; exact Nat.ne_of_gt (blk_lt (g := gb230) (o := .cells #[.int .i64 x231000_1, .int .i64 x231001_1] 26 (0, 0)) (bk_ BK230.out)) : gb241 ≠ gb230)); clear HO_4; clear BK230; clear HB; have HO_4 := n0_; have BK230 := n1_; have HB := n2_; have BK241 := n3_; have GW241 := n4_; have GE241 := n5_; have NB230_241 := n6_; have NB241_230 := n7_; clear n0_ n1_ n2_ n3_ n4_ n5_ n6_ n7_; clear hb hbox hg) | ((with_reducible refine gate_dst (N := 8) rfl ?_); refine box_event ?hg (N := 8) ?hd (cs := #[.int .i64 0, .int .i64 0]) (t := 26) ?hr ?_; (case hd => rfl); (case hg => rfl); (case hr => first | (go_simp; done) | (go_simp; rfl)); intro gb242 hg w32 hbox hb; have n0_ := Aside0.mk (Kd.R_below (by (with_reducible repeat (first | apply Kd.R_alloc | apply Kd.R_drewN | apply Kd.R_drew)); exact HO_4.out) hb); have n1_ := Aside0.mk (blk_below (g := gb230) (o := .cells #[.int .i64 x231000_1, .int .i64 x231001_1] 26 (0, 0)) (bk_ BK230.out) hb); have n2_ := Aside0.mk (blk_below (g := gb241) (o := .cells #[.int .i64 0, .string (⟨#[]⟩ : ByteArray), .int .i64 0, .int .i64 0] 46 (0, 0)) (bk_ BK241.out) hb); have n3_ := Aside0.mk (below_step (bl2_ HB.out GE230.out GE241.out) hb); have n4_ := Aside0.mk (hbox); have n5_ := Aside0.mk ((by rw [hg]; exact (below_size (bl2_ HB.out GE230.out GE241.out)) : w.heap.size ≤ gb242)); have n6_ := Aside0.mk ((by rw [hg]; exact (below_size (bl2_ HB.out GE230.out GE241.out)) : w.heap.size ≤ gb242)); have n7_ := Aside0.mk ((by rw [hg]; exact Nat.ne_of_lt (blk_lt (g := gb230) (o := .cells #[.int .i64 x231000_1, .int .i64 x231001_1] 26 (0, 0)) (bk_ BK230.out)) : gb230 ≠ gb242)); have n8_ := Aside0.mk ((by rw [hg]; exact Nat.ne_of_gt (blk_lt (g := gb230) (o := .cells #[.int .i64 x231000_1, .int .i64 x231001_1] 26 (0, 0)) (bk_ BK230.out)) : gb242 ≠ gb230)); have n9_ := Aside0.mk ((by rw [hg]; exact Nat.ne_of_lt (blk_lt (g := gb241) (o := .cells #[.int .i64 0, .string (⟨#[]⟩ : ByteArray), .int .i64 0, .int .i64 0] 46 (0, 0)) (bk_ BK241.out)) : gb241 ≠ gb242)); have n10_ := Aside0.mk ((by rw [hg]; exact Nat.ne_of_gt (blk_lt (g := gb241) (o := .cells #[.int .i64 0, .string (⟨#[]⟩ : ByteArray), .int .i64 0, .int .i64 0] 46 (0, 0)) (bk_ BK241.out)) : gb242 ≠ gb241)); clear HO_4; clear BK230; clear BK241; clear HB; have HO_4 := n0_; have BK230 := n1_; have BK241 := n2_; have HB := n3_; have BK242 := n4_; have GW242 := n5_; have GE242 := n6_; have NB230_242 := n7_; have NB242_230 := n8_; have NB241_242 := n9_; have NB242_241 := n10_; clear n0_ n1_ n2_ n3_ n4_ n5_ n6_ n7_ n8_ n9_ n10_; clear hb hbox hg; have hnb33 := NB241_230.out; have hnc33 := NB230_241.out; have hnb34 := NB241_242.out; have hnc34 := NB242_241.out; have hcz35_0 : w32.cell? ⟨gb241, 0, none⟩ = some (.int .i64 0) := (blk_cell BK241.out 0).trans rfl; have hcz35_1 : w32.cell? ⟨gb241, 1, none⟩ = some (.string (⟨#[]⟩ : ByteArray)) := (blk_cell BK241.out 1).trans rfl; have hcz35_2 : w32.cell? ⟨gb241, 2, none⟩ = some (.int .i64 0) := (blk_cell BK241.out 2).trans rfl; have hcz35_3 : w32.cell? ⟨gb241, 3, none⟩ = some (.int .i64 0) := (blk_cell BK241.out 3).trans rfl; have hfz35_0 := blk_frozen BK241.out 0; have hfz35_1 := blk_frozen BK241.out 1; have hfz35_2 := blk_frozen BK241.out 2; have hfz35_3 := blk_frozen BK241.out 3; have hnb36 := NB242_230.out; have hnc36 := NB230_242.out; have hcz37_0 : w32.cell? ⟨gb242, 0, none⟩ = some (.int .i64 0) := (blk_cell BK242.out 0).trans rfl; have hcz37_1 : w32.cell? ⟨gb242, 1, none⟩ = some (.int .i64 0) := (blk_cell BK242.out 1).trans rfl; have hfz37_0 := blk_frozen BK242.out 0; have hfz37_1 := blk_frozen BK242.out 1))
        have n0_ : Aside0 (Kd.R k46 46 ((((((w32.setCell ⟨gb241, 0, none⟩ (.int .i64 t234)).setCell ⟨gb241, 1, none⟩ (.string t235)).setCell ⟨gb241, 2, none⟩ (.int .i64 t236)).setCell ⟨gb241, 3, none⟩ (.int .i64 t237)).setCell ⟨gb242, 0, none⟩ (.int .i64 t239)).setCell ⟨gb242, 1, none⟩ (.int .i64 t240)) w.heap.size (fun k_ => k_ ≠ gb241) u4 x4_1) := ⟨by (with_reducible repeat (first | apply Kd.R_alloc | apply Kd.R_drewN | apply Kd.R_drew)); exact Kd.R_mono (Kd.R_far (p := ⟨gb242, 1, none⟩) (Kd.R_far (p := ⟨gb242, 0, none⟩) (Kd.R_far (p := ⟨gb241, 3, none⟩) (Kd.R_far (p := ⟨gb241, 2, none⟩) (Kd.R_far (p := ⟨gb241, 1, none⟩) (Kd.R_far (p := ⟨gb241, 0, none⟩) (Kd.R_types (Kd.R_mono HO_4.out (fun k_ hk => (⟨hk, hk.2⟩ : _ ∧ k_ ≠ gb241))) BK242.out (by decide)) (fun _ hk => hk.1.2) (.int .i64 t234)) (fun _ hk => hk.1.2) (.string t235)) (fun _ hk => hk.1.2) (.int .i64 t236)) (fun _ hk => hk.1.2) (.int .i64 t237)) (fun _ hk => hk.2) (.int .i64 t239)) (fun _ hk => hk.2) (.int .i64 t240)) (fun _ hk => hk.1.1.2)⟩
        have n1_ : Aside0 (((((((w32.setCell ⟨gb241, 0, none⟩ (.int .i64 t234)).setCell ⟨gb241, 1, none⟩ (.string t235)).setCell ⟨gb241, 2, none⟩ (.int .i64 t236)).setCell ⟨gb241, 3, none⟩ (.int .i64 t237)).setCell ⟨gb242, 0, none⟩ (.int .i64 t239)).setCell ⟨gb242, 1, none⟩ (.int .i64 t240)).heap[gb230]? = some (.cells #[.int .i64 x231000_1, .int .i64 x231001_1] 26 (0, 0))) := ⟨by (with_reducible repeat (first | refine blk_drewN ?_ _ | refine blk_drew ?_ | refine blk_alloc ?_ _)); refine blk_far ?_ NB230_242.out _; (with_reducible repeat (first | refine blk_drewN ?_ _ | refine blk_drew ?_ | refine blk_alloc ?_ _)); refine blk_far ?_ NB230_242.out _; (with_reducible repeat (first | refine blk_drewN ?_ _ | refine blk_drew ?_ | refine blk_alloc ?_ _)); refine blk_far ?_ NB230_241.out _; (with_reducible repeat (first | refine blk_drewN ?_ _ | refine blk_drew ?_ | refine blk_alloc ?_ _)); refine blk_far ?_ NB230_241.out _; (with_reducible repeat (first | refine blk_drewN ?_ _ | refine blk_drew ?_ | refine blk_alloc ?_ _)); refine blk_far ?_ NB230_241.out _; (with_reducible repeat (first | refine blk_drewN ?_ _ | refine blk_drew ?_ | refine blk_alloc ?_ _)); refine blk_far ?_ NB230_241.out _; (with_reducible repeat (first | refine blk_drewN ?_ _ | refine blk_drew ?_ | refine blk_alloc ?_ _)); exact BK230.out⟩
        have n2_ : Aside0 (((((((w32.setCell ⟨gb241, 0, none⟩ (.int .i64 t234)).setCell ⟨gb241, 1, none⟩ (.string t235)).setCell ⟨gb241, 2, none⟩ (.int .i64 t236)).setCell ⟨gb241, 3, none⟩ (.int .i64 t237)).setCell ⟨gb242, 0, none⟩ (.int .i64 t239)).setCell ⟨gb242, 1, none⟩ (.int .i64 t240)).heap[gb241]? = some (.cells #[.int .i64 t234, .string t235, .int .i64 t236, .int .i64 t237] 46 (0, 0))) := ⟨by (with_reducible repeat (first | refine blk_drewN ?_ _ | refine blk_drew ?_ | refine blk_alloc ?_ _)); refine blk_far ?_ NB241_242.out _; (with_reducible repeat (first | refine blk_drewN ?_ _ | refine blk_drew ?_ | refine blk_alloc ?_ _)); refine blk_far ?_ NB241_242.out _; (with_reducible repeat (first | refine blk_drewN ?_ _ | refine blk_drew ?_ | refine blk_alloc ?_ _)); refine blk_put (cs := #[.int .i64 t234, .string t235, .int .i64 t236, .int .i64 0]) ?_ 3 _ rfl; (with_reducible repeat (first | refine blk_drewN ?_ _ | refine blk_drew ?_ | refine blk_alloc ?_ _)); refine blk_put (cs := #[.int .i64 t234, .string t235, .int .i64 0, .int .i64 0]) ?_ 2 _ rfl; (with_reducible repeat (first | refine blk_drewN ?_ _ | refine blk_drew ?_ | refine blk_alloc ?_ _)); refine blk_put (cs := #[.int .i64 t234, .string (⟨#[]⟩ : ByteArray), .int .i64 0, .int .i64 0]) ?_ 1 _ rfl; (with_reducible repeat (first | refine blk_drewN ?_ _ | refine blk_drew ?_ | refine blk_alloc ?_ _)); refine blk_put (cs := #[.int .i64 0, .string (⟨#[]⟩ : ByteArray), .int .i64 0, .int .i64 0]) ?_ 0 _ rfl; (with_reducible repeat (first | refine blk_drewN ?_ _ | refine blk_drew ?_ | refine blk_alloc ?_ _)); exact BK241.out⟩
        have n3_ : Aside0 (((((((w32.setCell ⟨gb241, 0, none⟩ (.int .i64 t234)).setCell ⟨gb241, 1, none⟩ (.string t235)).setCell ⟨gb241, 2, none⟩ (.int .i64 t236)).setCell ⟨gb241, 3, none⟩ (.int .i64 t237)).setCell ⟨gb242, 0, none⟩ (.int .i64 t239)).setCell ⟨gb242, 1, none⟩ (.int .i64 t240)).heap[gb242]? = some (.cells #[.int .i64 t239, .int .i64 t240] 26 (0, 0))) := ⟨by (with_reducible repeat (first | refine blk_drewN ?_ _ | refine blk_drew ?_ | refine blk_alloc ?_ _)); refine blk_put (cs := #[.int .i64 t239, .int .i64 0]) ?_ 1 _ rfl; (with_reducible repeat (first | refine blk_drewN ?_ _ | refine blk_drew ?_ | refine blk_alloc ?_ _)); refine blk_put (cs := #[.int .i64 0, .int .i64 0]) ?_ 0 _ rfl; (with_reducible repeat (first | refine blk_drewN ?_ _ | refine blk_drew ?_ | refine blk_alloc ?_ _)); refine blk_far ?_ NB242_241.out _; (with_reducible repeat (first | refine blk_drewN ?_ _ | refine blk_drew ?_ | refine blk_alloc ?_ _)); refine blk_far ?_ NB242_241.out _; (with_reducible repeat (first | refine blk_drewN ?_ _ | refine blk_drew ?_ | refine blk_alloc ?_ _)); refine blk_far ?_ NB242_241.out _; (with_reducible repeat (first | refine blk_drewN ?_ _ | refine blk_drew ?_ | refine blk_alloc ?_ _)); refine blk_far ?_ NB242_241.out _; (with_reducible repeat (first | refine blk_drewN ?_ _ | refine blk_drew ?_ | refine blk_alloc ?_ _)); exact BK242.out⟩
        have n4_ : Aside0 (Below w.heap.size w ((((((w32.setCell ⟨gb241, 0, none⟩ (.int .i64 t234)).setCell ⟨gb241, 1, none⟩ (.string t235)).setCell ⟨gb241, 2, none⟩ (.int .i64 t236)).setCell ⟨gb241, 3, none⟩ (.int .i64 t237)).setCell ⟨gb242, 0, none⟩ (.int .i64 t239)).setCell ⟨gb242, 1, none⟩ (.int .i64 t240))) := ⟨bl3_ HB.out GE230.out GE241.out GE242.out⟩
        (try clear HO_4)
        (try clear BK230)
        (try clear BK241)
        (try clear BK242)
        (try clear HB)
        generalize ((((((w32.setCell ⟨gb241, 0, none⟩ (.int .i64 t234)).setCell ⟨gb241, 1, none⟩ (.string t235)).setCell ⟨gb241, 2, none⟩ (.int .i64 t236)).setCell ⟨gb241, 3, none⟩ (.int .i64 t237)).setCell ⟨gb242, 0, none⟩ (.int .i64 t239)).setCell ⟨gb242, 1, none⟩ (.int .i64 t240)) = w38 at n0_ n1_ n2_ n3_ n4_ ⊢
        have HO_4 := n0_
        have BK230 := n1_
        have BK241 := n2_
        have BK242 := n3_
        have HB := n4_
        clear n0_ n1_ n2_ n3_ n4_
        have n0_ := Aside0.mk (Kd.R_drew HO_4.out)
        have n1_ := Aside0.mk (blk_drew BK230.out)
        have n2_ := Aside0.mk (blk_drew BK241.out)
        have n3_ := Aside0.mk (blk_drew BK242.out)
        have n4_ := Aside0.mk (below_drew1 HB.out)
        clear HO_4
        clear BK230
        clear BK241
        clear BK242
        clear HB
        have HO_4 := n0_
        have BK230 := n1_
        have BK241 := n2_
        have BK242 := n3_
        have HB := n4_
        clear n0_ n1_ n2_ n3_ n4_
        refine start_ (n := 3) (S := fun w' => w'.cell? ⟨gb242, 0, none⟩ = some (.int .i64 t239) ∧ w'.cell? ⟨gb242, 1, none⟩ = some (.int .i64 t240)) (ds := []) #[false, false, false] (by kernel_rfl) rfl rfl ⟨(blk_cell BK242.out 0).trans rfl, (blk_cell BK242.out 1).trans rfl⟩ (fun hHeld => ?_)
        generalize w38.drew = w39 at HO_4 BK230 BK241 BK242 HB hHeld ⊢
        refine pure_ (i := 1) (N := some 2) (v := ?_) (a' := ?_) #[false, true, false] rfl rfl (by kernel_rfl) (fun _ _ _ h => h) (Or.inl ⟨by rfl, ?_⟩) ?_ ?_
        rotate_left
        · intro w'
          go_simp
          with_reducible rfl
        rotate_left
        · simp only [Act.put, List.setIfInBounds_toArray, List.set_cons_zero, List.set_cons_succ, i64_w, i32_w]
          rfl
        refine take_ (i := 0) (N := some 20) (v := ?_) (a' := ?_) #[true, true, false] rfl rfl (by kernel_rfl) (fun _ _ _ h => h) (Or.inl ⟨by rfl, ?_⟩) hHeld ?_ ?_
        rotate_left
        · rintro w' ⟨s0, s1⟩
          go_simp
          with_reducible rfl
        rotate_left
        · simp only [Act.put, List.setIfInBounds_toArray, List.set_cons_zero, List.set_cons_succ, i64_w, i32_w]
          rfl
        refine one_ (i := 2) (N := none) #[true, true, true] rfl rfl (by kernel_rfl) (by decide) (fun K hK => ?_)
        have hs40 : w39.cell? ⟨gb230, 0, none⟩ = some (.int .i64 x231000_1) := (blk_cell BK230.out 0).trans rfl
        have hfs40 := blk_frozen BK230.out 0
        have hns40_1 := NB241_230.out
        have hns40_2 := NB242_230.out
        have hms40_1 := NB230_241.out
        have hms40_2 := NB230_242.out
        have hs41 : w39.cell? ⟨gb230, 1, none⟩ = some (.int .i64 x231001_1) := (blk_cell BK230.out 1).trans rfl
        have hfs41 := blk_frozen BK230.out 1
        have hns41_1 := NB241_230.out
        have hns41_2 := NB242_230.out
        have hms41_1 := NB230_241.out
        have hms41_2 := NB230_242.out
        refine skip_ (w1 := ?_) (by rfl) rfl ?_ ?_
        rotate_left
        · go_simp
          rfl
        refine hK.out _ _ ⟨((cell_far (p := ⟨gb230, _, none⟩) NB242_230.out _).trans (((cell_far (p := ⟨gb230, _, none⟩) NB242_230.out _).trans (hHeld.1)))), ((cell_far (p := ⟨gb230, _, none⟩) NB242_230.out _).trans (((cell_far (p := ⟨gb230, _, none⟩) NB242_230.out _).trans (hHeld.2))))⟩ (fun hHeld => ?_)
        clear hK K
        refine done_ (by kernel_rfl) ?_
        try go_wp2
        refine bodyPost_ret (results_tc rfl _ _ gb230 26 #[.int .i64 t239, .int .i64 t240] (0, 0) _ rfl (by (with_reducible repeat (first | refine blk_drewN ?_ _ | refine blk_drew ?_ | refine blk_alloc ?_ _)); refine blk_put (cs := #[.int .i64 t239, .int .i64 x231001_1]) ?_ 1 _ rfl; (with_reducible repeat (first | refine blk_drewN ?_ _ | refine blk_drew ?_ | refine blk_alloc ?_ _)); refine blk_put (cs := #[.int .i64 x231000_1, .int .i64 x231001_1]) ?_ 0 _ rfl; (with_reducible repeat (first | refine blk_drewN ?_ _ | refine blk_drew ?_ | refine blk_alloc ?_ _)); exact BK230.out) Tryd.underlying26 rfl (by kernel_rfl)) rfl ?_
        exact ⟨_, er_, by first | exact Kd.R_nil _ _ _ _ _ | exact Kd.N_nil _ _ _ _ _ | exact Kd.V_nil _ _ _ _ _ | exact Kd.Q_nil _ _ _ _ _ | exact Kd.S_nil _ _ _ _ _, bl3_ HB.out GE230.out GE241.out GE242.out⟩
end Go.Proofs.YtkifdadhojbohaaDoor.Pr
namespace Go.Proofs.YtkifdadhojbohaaDoor.Pu
open Go.RowKit Go.Proofs.YtkifdadhojbohaaDoor Go.Proofs.YtkifdadhojbohaaDoor.Pr Go.Proofs.YtkifdadhojbohaaDoorW.PrintWords Go.Proofs.YtkifdadhojbohaaDoorW.PrintLast
/-! ### blanks and comments -/
theorem rskip_j1t (s : ByteArray) (i : Nat) (r : Int) (hi : i ≤ 1000000) (h : Ev (fun k => salchowref09_skip.l0 k s ((i + 1 : Nat) : Int)) r) : Ev (fun k => salchowref09_skip.j1 k s i true) r := by
  refine Ev.succ ?_
  simp only [salchowref09_skip.j1]
  rw [wrap_nat i hi]
  exact Ev.ifp (by simp) h
theorem rskip_prog (s : ByteArray) (hs : s.size ≤ 1000000) : ∀ (d : Nat) (i : Nat) (l : List UInt8), i ≤ s.size → s.size - i = d → (lst s).drop i = l →
    Ev (fun k => salchowref09_skip.l0 k s i) (s.size - (skipL false l).length) ∧ Ev (fun k => salchowref09_skip.l1 k s i) (s.size - (skipL true l).length) := by
  intro d
  induction d with
  | zero =>
    intro i l hi hd hl
    obtain rfl : i = s.size := by omega
    obtain rfl : l = [] := by rw [← hl]; exact List.drop_eq_nil_of_le (by rw [lst_length]; omega)
    have h0 : Ev (fun k => salchowref09_skip.l0 k s (s.size : Int)) (s.size - (skipL false []).length) := by
      refine Ev.succ ?_
      simp only [salchowref09_skip.l0]
      refine Ev.ifn (by omega) (Ev.ret (by simp [skipL]))
    refine ⟨h0, ?_⟩
    refine Ev.succ ?_
    simp only [salchowref09_skip.l1]
    exact Ev.ifn (by omega) h0
  | succ d ih =>
    intro i l hi hd hl
    cases l with
    | nil => exact absurd (at_nil hi hl) (by omega)
    | cons c l =>
      obtain ⟨h1, h2, h3⟩ := at_cons hl
      obtain ⟨ihf, iht⟩ := ih (i + 1) l (by omega) (by omega) h3
      have hk := kind1 c.toNat
      have hb : kindOf c.toNat = 1 → Ev (fun k => salchowref09_skip.l0 k s i) (s.size - (skipL false l).length) := by
        intro hb
        have hj := rskip_j1t s i _ (by omega) ihf
        refine Ev.succ ?_
        simp only [salchowref09_skip.l0]
        rw [h2]
        refine Ev.ifp (by omega) (Ev.ifp (by omega) ?_)
        by_cases a : c.toNat = 32
        · exact Ev.ifp (by omega) hj
        · refine Ev.ifn (by omega) ?_
          by_cases b : c.toNat = 9
          · exact Ev.ifp (by omega) hj
          · refine Ev.ifn (by omega) ?_
            by_cases e : c.toNat = 10
            · exact Ev.ifp (by omega) hj
            · refine Ev.ifn (by omega) ?_
              have : ((c.toNat : Int) == 13) = true := by rw [beq_iff_eq]; omega
              rw [this]; exact hj
      have ht : Ev (fun k => salchowref09_skip.l1 k s i) (s.size - (skipL true (c :: l)).length) := by
        refine Ev.succ ?_
        simp only [salchowref09_skip.l1]
        rw [h2]
        refine Ev.ifp (by omega) (Ev.ifp (by omega) ?_)
        unfold skipL
        by_cases h10 : c.toNat = 10
        · rw [if_pos h10]
          exact Ev.ifp (by omega) (hb (by omega))
        · rw [if_neg h10, wrap_nat i (by omega)]
          exact Ev.ifn (by omega) iht
      refine ⟨?_, ht⟩
      by_cases hb1 : kindOf c.toNat = 1
      · unfold skipL
        rw [if_neg (by omega), if_pos hb1]
        exact hb hb1
      · refine Ev.succ ?_
        simp only [salchowref09_skip.l0]
        rw [h2]
        refine Ev.ifp (by omega) (Ev.ifp (by omega) (Ev.ifn (by omega) (Ev.ifn (by omega) (Ev.ifn (by omega) ?_))))
        have : ((c.toNat : Int) == 13) = false := by rw [beq_eq_false_iff_ne]; omega
        rw [this]
        refine Ev.succ ?_
        simp only [salchowref09_skip.j1]
        rw [h2]
        refine Ev.ifn (by simp) (Ev.ifp (by omega) (Ev.ifp (by omega) ?_))
        by_cases h35 : c.toNat = 35
        · refine Ev.ifp (by omega) ?_
          have e : skipL false (c :: l) = skipL true (c :: l) := by
            unfold skipL; rw [if_pos h35, if_neg (by omega)]
          rw [e]; exact ht
        · refine Ev.ifn (by omega) (Ev.ret ?_)
          have e : skipL false (c :: l) = c :: l := by
            unfold skipL; rw [if_neg h35, if_neg hb1]
          rw [e, ← hl, List.length_drop, lst_length]; omega
theorem rskip_f (s : ByteArray) (hs : s.size ≤ 1000000) (i : Nat) (hi : i ≤ s.size) : Ev (fun k => salchowref09_skip.f k s i) (s.size - (skipL false ((lst s).drop i)).length) := (rskip_prog s hs _ i _ hi rfl rfl).1
/-! ### kinds of bytes -/
theorem rletter_f (c : UInt8) : salchowref09_letter.f (c.toNat : Int) = some (isLet c) := by
  unfold salchowref09_letter.f
  have hk := kind2 c.toNat
  have : isLet c = decide (97 ≤ c.toNat ∧ c.toNat ≤ 122 ∨ 65 ≤ c.toNat ∧ c.toNat ≤ 90) := by
    rw [Bool.eq_iff_iff]; simp only [isLet, Bool.and_eq_true, beq_iff_eq, bne_iff_ne, ne_eq, decide_eq_true_eq]; omega
  rw [this]
  by_cases a : c.toNat ≥ 65
  · rw [if_pos (by omega)]
    by_cases b : c.toNat ≤ 90
    · rw [if_pos (by omega)]; congr 1; rw [eq_comm, decide_eq_true_eq]; omega
    · rw [if_neg (by omega)]
      by_cases e : c.toNat ≥ 97
      · rw [if_pos (by omega)]; congr 1; rw [Bool.eq_iff_iff]; simp only [decide_eq_true_eq]; omega
      · rw [if_neg (by omega)]; congr 1; rw [eq_comm, decide_eq_false_iff_not]; omega
  · rw [if_neg (by omega), if_neg (by omega)]; congr 1; rw [eq_comm, decide_eq_false_iff_not]; omega
theorem rdigit_f (c : UInt8) : salchowref09_digit.f (c.toNat : Int) = some (isDig c) := by
  unfold salchowref09_digit.f
  have hk := isDig_iff c
  by_cases a : c.toNat ≥ 48
  · rw [if_pos (by omega)]; congr 1; rw [Bool.eq_iff_iff, hk]; simp only [decide_eq_true_eq]; omega
  · rw [if_neg (by omega)]; congr 1; rw [eq_comm, ← Bool.not_eq_true, hk]; omega
theorem rrun_f (c : UInt8) : salchowref09_run.f (c.toNat : Int) = some (isRunB c) := by
  unfold salchowref09_run.f
  rw [rletter_f, rdigit_f]
  simp only [Option.bind_some]
  have h2 := kind2 c.toNat
  have h3 := kind3 c.toNat
  have h4 := kind4 c.toNat
  have hd := isDig_iff c
  have hl : isLet c = true ↔ (kindOf c.toNat = 2 ∧ c.toNat ≠ 95) := by simp [isLet]
  have hr : isRunB c = true ↔ (kindOf c.toNat = 2 ∨ kindOf c.toNat = 3 ∨ kindOf c.toNat = 4) := by simp [isRunB, or_assoc]
  by_cases a : isLet c = true
  · rw [if_pos a]; congr 1; rw [eq_comm, hr]; left; exact (hl.1 a).1
  · rw [if_neg a]
    by_cases b : isDig c = true
    · rw [if_pos b]; congr 1; rw [eq_comm, hr]; right; left; rw [h3, ← hd]; exact b
    · rw [if_neg b]
      by_cases e : c.toNat = 95
      · rw [if_pos (by omega)]; congr 1; rw [eq_comm, hr]; left; rw [h2]; omega
      · rw [if_neg (by omega)]; congr 1
        rw [Bool.eq_iff_iff, hr, beq_iff_eq]
        rw [hl] at a
        rw [hd, ← h3] at b
        constructor
        · intro h; right; right; rw [h4]; omega
        · intro h
          rcases h with h | h | h
          · exact absurd ⟨h, e⟩ a
          · exact absurd h b
          · rw [h4] at h; omega
theorem rsign_f (c : UInt8) : Ev (fun k => salchowref09_sign.f k (c.toNat : Int)) (decide (kindOf c.toNat = 5)) := by
  have hk := kind5 c.toNat
  unfold salchowref09_sign.f
  have step : ∀ (i : Nat) (b : Bool) (x : Nat), i < 11 → bt (⟨#[40, 41, 43, 45, 42, 47, 44, 61, 59, 123, 125]⟩ : ByteArray) (i : Int) = (x : Int) →
      (c.toNat ≠ x → Ev (fun k => salchowref09_sign.l0 k (c.toNat : Int) ((i + 1 : Nat) : Int)) b) → (c.toNat = x → b = true) → Ev (fun k => salchowref09_sign.l0 k (c.toNat : Int) (i : Int)) b := by
    intro i b x hi hx h hb
    refine Ev.succ ?_
    simp only [salchowref09_sign.l0]
    rw [hx, wrap_nat i (by omega)]
    refine Ev.ifp (by omega) (Ev.ifp (by omega) ?_)
    by_cases e : c.toNat = x
    · exact Ev.ifp (by omega) (Ev.ret (hb e).symm)
    · exact Ev.ifn (by omega) (h e)
  refine step 0 _ 40 (by omega) (by decide) (fun h0 => ?_) (fun e => by rw [decide_eq_true_eq]; omega)
  refine step 1 _ 41 (by omega) (by decide) (fun h1 => ?_) (fun e => by rw [decide_eq_true_eq]; omega)
  refine step 2 _ 43 (by omega) (by decide) (fun h2 => ?_) (fun e => by rw [decide_eq_true_eq]; omega)
  refine step 3 _ 45 (by omega) (by decide) (fun h3 => ?_) (fun e => by rw [decide_eq_true_eq]; omega)
  refine step 4 _ 42 (by omega) (by decide) (fun h4 => ?_) (fun e => by rw [decide_eq_true_eq]; omega)
  refine step 5 _ 47 (by omega) (by decide) (fun h5 => ?_) (fun e => by rw [decide_eq_true_eq]; omega)
  refine step 6 _ 44 (by omega) (by decide) (fun h6 => ?_) (fun e => by rw [decide_eq_true_eq]; omega)
  refine step 7 _ 61 (by omega) (by decide) (fun h7 => ?_) (fun e => by rw [decide_eq_true_eq]; omega)
  refine step 8 _ 59 (by omega) (by decide) (fun h8 => ?_) (fun e => by rw [decide_eq_true_eq]; omega)
  refine step 9 _ 123 (by omega) (by decide) (fun h9 => ?_) (fun e => by rw [decide_eq_true_eq]; omega)
  refine step 10 _ 125 (by omega) (by decide) (fun h10 => ?_) (fun e => by rw [decide_eq_true_eq]; omega)
  refine Ev.succ ?_
  simp only [salchowref09_sign.l0]
  refine Ev.ifn (by omega) (Ev.ret ?_)
  rw [eq_comm, decide_eq_false_iff_not]; omega
theorem rhas_f (s : ByteArray) (hs : s.size ≤ 1000000) (q : Bool) : ∀ (d i : Nat) (l : List UInt8), i ≤ s.size → s.size - i = d → (lst s).drop i = l →
    Ev (fun k => salchowref09_has.l0 k s q (!q) i) (if q then l.any isLet else l.any isDot) := by
  intro d
  induction d with
  | zero =>
    intro i l hi hd hl
    obtain rfl : i = s.size := by omega
    obtain rfl : l = [] := by rw [← hl]; exact List.drop_eq_nil_of_le (by rw [lst_length]; omega)
    refine Ev.succ ?_
    simp only [salchowref09_has.l0]
    exact Ev.ifn (by omega) (Ev.ret (by simp))
  | succ d ih =>
    intro i l hi hd hl
    cases l with
    | nil => exact absurd (at_nil hi hl) (by omega)
    | cons c l =>
      obtain ⟨h1, h2, h3⟩ := at_cons hl
      have hi2 := ih (i + 1) l (by omega) (by omega) h3
      refine Ev.succ ?_
      simp only [salchowref09_has.l0]
      rw [h2, wrap_nat i (by omega)]
      refine Ev.ifp (by omega) ?_
      cases q with
      | true =>
        refine Ev.ifp rfl (Ev.ifp (by omega) (Ev.val (rletter_f c) ?_))
        by_cases a : isLet c = true
        · exact Ev.ifp a (Ev.ret (by simp [a]))
        · refine Ev.ifn a (Ev.ifn (by simp) ?_)
          rw [Bool.not_eq_true] at a
          simpa [a] using hi2
      | false =>
        refine Ev.ifn (by simp) (Ev.ifp (by simp) (Ev.ifp (by omega) ?_))
        by_cases a : c.toNat = 46
        · exact Ev.ifp (by omega) (Ev.ret (by simp [isDot, a]))
        · refine Ev.ifn (by omega) ?_
          have : isDot c = false := by simp [isDot, a]
          simpa [this] using hi2
theorem rdigits_f (s : ByteArray) (hs : s.size ≤ 1000000) : Ev (fun k => salchowref09_digits.f k s) (decide (lst s ≠ []) && (lst s).all isDig) := by
  have loop : ∀ (d i : Nat) (l : List UInt8), i ≤ s.size → s.size - i = d → (lst s).drop i = l → Ev (fun k => salchowref09_digits.l0 k s i) (decide (lst s ≠ []) && l.all isDig) := by
    intro d
    induction d with
    | zero =>
      intro i l hi hd hl
      obtain rfl : i = s.size := by omega
      obtain rfl : l = [] := by rw [← hl]; exact List.drop_eq_nil_of_le (by rw [lst_length]; omega)
      refine Ev.succ ?_
      simp only [salchowref09_digits.l0]
      refine Ev.ifn (by omega) (Ev.ret ?_)
      simp only [List.all_nil, Bool.and_true]
      rw [Bool.eq_iff_iff]; simp only [decide_eq_true_eq, ← List.length_pos_iff, lst_length]; omega
    | succ d ih =>
      intro i l hi hd hl
      cases l with
      | nil => exact absurd (at_nil hi hl) (by omega)
      | cons c l =>
        obtain ⟨h1, h2, h3⟩ := at_cons hl
        have hi2 := ih (i + 1) l (by omega) (by omega) h3
        refine Ev.succ ?_
        simp only [salchowref09_digits.l0]
        rw [h2, wrap_nat i (by omega)]
        refine Ev.ifp (by omega) (Ev.ifp (by omega) (Ev.val (rdigit_f c) ?_))
        by_cases a : isDig c = true
        · refine Ev.ifp a ?_
          simpa [a] using hi2
        · refine Ev.ifn a (Ev.ret ?_)
          rw [Bool.not_eq_true] at a
          simp [a]
  exact loop _ 0 _ (by omega) rfl rfl
end Go.Proofs.YtkifdadhojbohaaDoor.Pu
namespace Go.Proofs.YtkifdadhojbohaaDoor.Pu
open Go.RowKit Go.Proofs.YtkifdadhojbohaaDoor Go.Proofs.YtkifdadhojbohaaDoor.Pr Go.Proofs.YtkifdadhojbohaaDoorW.PrintWords Go.Proofs.YtkifdadhojbohaaDoorW.PrintLast
/-! ### numbers -/
def valL (a : Nat) (l : List UInt8) : Nat := l.foldl (fun n c => n * 10 + (c.toNat - 48)) a
theorem valL_bound : ∀ (l : List UInt8) (a k : Nat), l.all isDig = true → a < 10 ^ k → valL a l < 10 ^ (k + l.length)
  | [], a, k, _, ha => ha
  | c :: l, a, k, hd, ha => by
    simp only [List.all_cons, Bool.and_eq_true] at hd
    have hc := (isDig_iff c).1 hd.1
    have he : 10 ^ (k + 1) = 10 ^ k * 10 := Nat.pow_succ ..
    have := valL_bound l (a * 10 + (c.toNat - 48)) (k + 1) hd.2 (by omega)
    rw [show k + (c :: l).length = k + 1 + l.length by simp; omega]
    exact this
theorem step_dig (n : Nat) (c : UInt8) (hn : n < 10 ^ 16) (hc : isDig c = true) : wrap64 (wrap64 (10 * (n : Int)) + (((c.toNat : Int) - 48) % 256)) = ((n * 10 + (c.toNat - 48) : Nat) : Int) := by
  have hc := (isDig_iff c).1 hc
  rw [wrap64_of (i := 10 * (n : Int)) (by omega) (by omega), wrap64_of (by omega) (by omega)]
  omega
theorem step_dig' (n : Nat) (c : UInt8) (hn : n < 10 ^ 16) (hc : isDig c = true) : wrap64 (wrap64 ((n : Int) * 10) + (((c.toNat : Int) - 48) % 256)) = ((n * 10 + (c.toNat - 48) : Nat) : Int) := by
  rw [Int.mul_comm]; exact step_dig n c hn hc
theorem rl2_f (p : ByteArray) (hp : (lst p).all isDig = true) (hs : p.size ≤ 1000000) : ∀ (d i n : Nat), i ≤ 3 → 3 - i = d → n < 10 ^ (10 + i) →
    Ev (fun k => salchowref09_number.l2 k p n i) (if valL n (((lst p ++ [48, 48, 48]).take 3).drop i) > 1000000000 then (0, 5) else ((valL n (((lst p ++ [48, 48, 48]).take 3).drop i) : Int), 0)) := by
  have hl3 : ((lst p ++ [48, 48, 48]).take 3).length = 3 := by rw [List.length_take, List.length_append]; simp
  intro d
  induction d with
  | zero =>
    intro i n hi hd hn
    obtain rfl : i = 3 := by omega
    rw [List.drop_eq_nil_of_le (by omega)]
    refine Ev.succ ?_
    simp only [salchowref09_number.l2]
    refine Ev.ifn (by omega) ?_
    show Ev _ (if n > 1000000000 then (0, 5) else ((n : Int), 0))
    by_cases h : n > 1000000000
    · exact Ev.ifp (by omega) (Ev.ret (by rw [if_pos h]))
    · exact Ev.ifn (by omega) (Ev.ret (by rw [if_neg h]))
  | succ d ih =>
    intro i n hi hd hn
    have hnb : n < 10 ^ 16 := Nat.lt_of_lt_of_le hn (Nat.pow_le_pow_right (by omega) (by omega))
    have hcons : ((lst p ++ [48, 48, 48]).take 3).drop i = ((lst p ++ [48, 48, 48]).take 3)[i]'(by omega) :: ((lst p ++ [48, 48, 48]).take 3).drop (i + 1) := List.drop_eq_getElem_cons (by omega)
    rw [hcons]
    refine Ev.succ ?_
    simp only [salchowref09_number.l2]
    refine Ev.ifp (by omega) ?_
    rw [wrap_nat i (by omega)]
    by_cases h : i < p.size
    · obtain ⟨c, hc1, hc2⟩ := bt_get h
      have hg : ((lst p ++ [48, 48, 48]).take 3)[i]'(by omega) = c := by
        rw [List.getElem_take, List.getElem_append_left (by rw [lst_length]; exact h)]
        exact (List.getElem?_eq_some_iff.1 hc1).2
      have hdig : isDig c = true := by
        refine (List.all_eq_true.1 hp) c ?_
        exact List.mem_of_getElem? hc1
      refine Ev.ifp (by omega) (Ev.ifp (by omega) ?_)
      rw [hc2, step_dig' n c hnb hdig, hg]
      have hb := (isDig_iff c).1 hdig
      have he : 10 ^ (10 + (i + 1)) = 10 ^ (10 + i) * 10 := Nat.pow_succ ..
      exact ih (i + 1) (n * 10 + (c.toNat - 48)) (by omega) (by omega) (by omega)
    · have hg : ((lst p ++ [48, 48, 48]).take 3)[i]'(by omega) = 48 := by
        rw [List.getElem_take, List.getElem_append_right (by rw [lst_length]; omega)]
        have hm := List.getElem_mem (l := ([48, 48, 48] : List UInt8)) (n := i - (lst p).length) (by rw [lst_length]; simp; omega)
        generalize ([48, 48, 48] : List UInt8)[i - (lst p).length]'_ = x at hm ⊢
        simp only [List.mem_cons, List.not_mem_nil, or_false, or_self] at hm
        exact hm
      refine Ev.ifn (by omega) ?_
      have hw : wrap64 ((n : Int) * 10) = ((n * 10 + ((48 : UInt8).toNat - 48) : Nat) : Int) := by
        rw [wrap64_of (by omega) (by omega)]
        show (n : Int) * 10 = ((n * 10 + (48 - 48) : Nat) : Int)
        omega
      rw [hw, hg]
      have he : 10 ^ (10 + (i + 1)) = 10 ^ (10 + i) * 10 := Nat.pow_succ ..
      have h48 : (48 : UInt8).toNat = 48 := rfl
      exact ih (i + 1) (n * 10 + ((48 : UInt8).toNat - 48)) (by omega) (by omega) (by rw [h48]; omega)
theorem rl1_f (w p : ByteArray) (hw : (lst w).all isDig = true) (hp : (lst p).all isDig = true) (hws : w.size ≤ 10) (hs : p.size ≤ 1000000) : ∀ (d i n : Nat) (l : List UInt8), i ≤ w.size → w.size - i = d → (lst w).drop i = l → n < 10 ^ i →
    Ev (fun k => salchowref09_number.l1 k w p n i) (if valL (valL n l) ((lst p ++ [48, 48, 48]).take 3) > 1000000000 then (0, 5) else ((valL (valL n l) ((lst p ++ [48, 48, 48]).take 3) : Int), 0)) := by
  intro d
  induction d with
  | zero =>
    intro i n l hi hd hl hn
    obtain rfl : i = w.size := by omega
    obtain rfl : l = [] := by rw [← hl]; exact List.drop_eq_nil_of_le (by rw [lst_length]; omega)
    refine Ev.succ ?_
    simp only [salchowref09_number.l1]
    refine Ev.ifn (by omega) ?_
    have := rl2_f p hp hs 3 0 n (by omega) rfl (Nat.lt_of_lt_of_le hn (Nat.pow_le_pow_right (by omega) (by omega)))
    exact this
  | succ d ih =>
    intro i n l hi hd hl hn
    cases l with
    | nil => exact absurd (at_nil hi hl) (by omega)
    | cons c l =>
      obtain ⟨h1, h2, h3⟩ := at_cons hl
      have hdig : isDig c = true := by
        refine (List.all_eq_true.1 hw) c ?_
        have : c ∈ (lst w).drop i := by rw [hl]; exact List.mem_cons_self
        exact List.mem_of_mem_drop this
      have hnb : n < 10 ^ 16 := Nat.lt_of_lt_of_le hn (Nat.pow_le_pow_right (by omega) (by omega))
      refine Ev.succ ?_
      simp only [salchowref09_number.l1]
      rw [h2, wrap_nat i (by omega), step_dig n c hnb hdig]
      refine Ev.ifp (by omega) (Ev.ifp (by omega) ?_)
      have hb := (isDig_iff c).1 hdig
      have he : 10 ^ (i + 1) = 10 ^ i * 10 := Nat.pow_succ ..
      exact ih (i + 1) (n * 10 + (c.toNat - 48)) l (by omega) (by omega) h3 (by omega)
theorem valL_append (a : Nat) (l m : List UInt8) : valL (valL a l) m = valL a (l ++ m) := by simp [valL]
theorem digitsVal_eq (l : List UInt8) : digitsVal l = valL 0 l := rfl
theorem rj3_f (w p : ByteArray) (hs : w.size + p.size ≤ 1000000) (b : Bool) (hb : b = false → (lst w).all isDig = true ∧ (lst p).all isDig = true) :
    Ev (fun k => salchowref09_number.j3 k w p b) (if b then (0, 2) else tailL (lst w) (lst p)) := by
  refine Ev.succ ?_
  simp only [salchowref09_number.j3]
  cases b with
  | true => exact Ev.ifp (by simp) (Ev.ret (by simp))
  | false =>
    obtain ⟨h1, h2⟩ := hb rfl
    refine Ev.ifn (by simp) ?_
    simp only [Bool.false_eq_true, if_false]
    unfold tailL
    rw [lst_length, digitsVal_eq]
    by_cases h10 : 10 < w.size
    · exact Ev.ifp (by omega) (Ev.ret (by rw [if_pos h10]))
    · refine Ev.ifn (by omega) ?_
      rw [if_neg h10]
      have := rl1_f w p h1 h2 (by omega) (by omega) _ 0 0 (lst w) (by omega) rfl rfl (by decide)
      rw [valL_append] at this
      exact this
theorem rj2_f (w p : ByteArray) (hs : w.size + p.size ≤ 1000000) (hp : (lst p).all isDig = true) :
    Ev (fun k => salchowref09_number.j2 k w p) (if lst w = [] ∨ (1 < (lst w).length ∧ (lst w).head? = some 48) then (0, 2) else if (lst w).all isDig = false then (0, 2) else tailL (lst w) (lst p)) := by
  have h48 : ∀ c : UInt8, (some c = some (48 : UInt8)) ↔ c.toNat = 48 := fun c => byte_eq (by decide)
  refine Ev.succ ?_
  simp only [salchowref09_number.j2]
  refine Ev.bind (rdigits_f w (by omega)) ?_
  rw [lst_length]
  by_cases h0 : lst w = []
  · refine Ev.ifn (by simp [h0]) ?_
    rw [if_pos (.inl h0)]
    simpa using rj3_f w p hs true (by simp)
  · have hp0 : 0 < w.size := by rw [← lst_length]; exact List.length_pos_iff.2 h0
    obtain ⟨c, hc1, hc2⟩ := head_bt hp0
    by_cases ha : (lst w).all isDig = true
    · refine Ev.ifp (by simp [h0, ha]) ?_
      rw [hc2]
      by_cases h1 : 1 < w.size
      · refine Ev.ifp (by omega) (Ev.ifp (by omega) ?_)
        by_cases hz : c.toNat = 48
        · have : ((c.toNat : Int) == 48) = true := by rw [beq_iff_eq]; omega
          rw [this, if_pos (.inr ⟨h1, by rw [hc1, h48]; exact hz⟩)]
          simpa using rj3_f w p hs true (by simp)
        · have : ((c.toNat : Int) == 48) = false := by rw [beq_eq_false_iff_ne]; omega
          rw [this, if_neg (by rintro (h | h); exact h0 h; have := h.2; rw [hc1, h48] at this; exact hz this)]
          simpa [ha] using rj3_f w p hs false (fun _ => ⟨ha, hp⟩)
      · refine Ev.ifn (by omega) ?_
        rw [if_neg (by rintro (h | h); exact h0 h; omega)]
        simpa [ha] using rj3_f w p hs false (fun _ => ⟨ha, hp⟩)
    · refine Ev.ifn (by simp [ha]) ?_
      rw [Bool.not_eq_true] at ha
      have := rj3_f w p hs true (by simp)
      by_cases hc : lst w = [] ∨ (1 < w.size ∧ (lst w).head? = some 48)
      · rw [if_pos hc]; simpa using this
      · rw [if_neg hc]; simpa [ha] using this
theorem rj2_l (a b : List UInt8) (hs : a.length + b.length ≤ 1000000) (hp : b.all isDig = true) :
    Ev (fun k => salchowref09_number.j2 k (str a) (str b)) (if a = [] ∨ (1 < a.length ∧ a.head? = some 48) then (0, 2) else if a.all isDig = false then (0, 2) else tailL a b) :=
  rj2_f (str a) (str b) (by rw [size_str, size_str]; exact hs) hp
theorem findIdx_cons (t : List UInt8) (c : UInt8) : (c :: t).findIdx (· == 46) = if c.toNat = 46 then 0 else t.findIdx (· == 46) + 1 := by
  rw [List.findIdx_cons]
  by_cases h : c.toNat = 46
  · have : (c == 46) = true := by rw [beq_iff_eq, ← UInt8.toNat_inj]; exact h
    rw [this, if_pos h]; rfl
  · have : (c == 46) = false := by rw [beq_eq_false_iff_ne]; intro e; exact h (by rw [e]; rfl)
    rw [this, if_neg h]; rfl
theorem rnumber_f (s : ByteArray) (hs : s.size ≤ 1000000) : Ev (fun k => salchowref09_number.f k s) (numL (lst s)) := by
  have hj1 : Ev (fun k => salchowref09_number.j1 k s (((lst s).findIdx (· == 46) : Nat) : Int)) (numL (lst s)) := by
    have hle : (lst s).findIdx (· == 46) ≤ s.size := by rw [← lst_length]; exact List.findIdx_le_length
    have e : numL (lst s) = (if (lst s).take ((lst s).findIdx (· == 46)) = [] ∨ (1 < ((lst s).take ((lst s).findIdx (· == 46))).length ∧ ((lst s).take ((lst s).findIdx (· == 46))).head? = some 48) ∨ ((lst s).findIdx (· == 46) < s.size ∧ ((lst s).drop ((lst s).findIdx (· == 46) + 1) = [] ∨ 3 < ((lst s).drop ((lst s).findIdx (· == 46) + 1)).length)) then (0, 2)
        else if ((lst s).take ((lst s).findIdx (· == 46)) ++ (lst s).drop ((lst s).findIdx (· == 46) + 1)).all isDig = false then (0, 2) else tailL ((lst s).take ((lst s).findIdx (· == 46))) ((lst s).drop ((lst s).findIdx (· == 46) + 1))) := rfl
    rw [e]
    generalize (lst s).findIdx (· == 46) = i at hle ⊢
    have hx : s.extract 0 ((i : Int)).toNat = str ((lst s).take i) := by apply lst_inj; rw [lst_extract]; rfl
    have hy : s.extract (((i + 1 : Nat) : Int)).toNat s.size = str ((lst s).drop (i + 1)) := by
      apply lst_inj; rw [lst_extract, List.take_of_length_le (by rw [lst_length]; omega)]; rfl
    refine Ev.succ ?_
    simp only [salchowref09_number.j1]
    rw [wrap_nat i (by omega), hx, hy]
    refine Ev.ifp (by omega) (Ev.ifp (by omega) ?_)
    have hlt : ((lst s).take i).length = i := by rw [List.length_take, lst_length]; omega
    have hld : ((lst s).drop (i + 1)).length = s.size - (i + 1) := by rw [List.length_drop, lst_length]
    by_cases hi : i < s.size
    · refine Ev.ifp (by omega) (Ev.ifp (by omega) (Ev.ifp (by omega) (Ev.bind (rdigits_f (str ((lst s).drop (i + 1))) (by rw [size_str]; omega)) ?_)))
      simp only [lst_str]
      by_cases hp : (lst s).drop (i + 1) = []
      · refine Ev.ifn (by simp [hp]) (Ev.ret ?_)
        rw [if_pos (.inr (.inr ⟨hi, .inl hp⟩))]
      · by_cases ha : ((lst s).drop (i + 1)).all isDig = true
        · refine Ev.ifp (by simp [hp, ha]) ?_
          rw [size_str]
          by_cases h3 : 3 < ((lst s).drop (i + 1)).length
          · refine Ev.ifp (by omega) (Ev.ret ?_)
            rw [if_pos (.inr (.inr ⟨hi, .inr h3⟩))]
          · refine Ev.ifn (by omega) ?_
            have := rj2_l ((lst s).take i) ((lst s).drop (i + 1)) (by omega) ha
            rw [List.all_append, ha, Bool.and_true]
            by_cases hc : (lst s).take i = [] ∨ (1 < ((lst s).take i).length ∧ ((lst s).take i).head? = some 48)
            · rw [if_pos hc] at this
              rw [if_pos (hc.elim .inl (fun h => .inr (.inl h)))]
              exact this
            · rw [if_neg hc] at this
              rw [if_neg (by rintro (h | h | h); exact hc (.inl h); exact hc (.inr h); rcases h.2 with h | h; exact hp h; exact h3 h)]
              exact this
        · refine Ev.ifn (by simp [ha]) (Ev.ret ?_)
          rw [Bool.not_eq_true] at ha
          rw [List.all_append, ha, Bool.and_false]
          split <;> rfl
    · have hd : (lst s).drop (i + 1) = [] := List.drop_eq_nil_of_le (by rw [lst_length]; omega)
      refine Ev.ifn (by omega) ?_
      rw [hd]
      have := rj2_l ((lst s).take i) [] (by simp; omega) rfl
      rw [show (str [] : ByteArray) = ⟨#[]⟩ from rfl] at this
      rw [List.append_nil]
      by_cases hc : (lst s).take i = [] ∨ (1 < ((lst s).take i).length ∧ ((lst s).take i).head? = some 48)
      · rw [if_pos hc] at this
        rw [if_pos (hc.elim .inl (fun h => .inr (.inl h)))]
        exact this
      · rw [if_neg hc] at this
        rw [if_neg (by rintro (h | h | h); exact hc (.inl h); exact hc (.inr h); exact hi h.1)]
        exact this
  have loop : ∀ (d i : Nat) (l : List UInt8), i ≤ s.size → s.size - i = d → (lst s).drop i = l → i + l.findIdx (· == 46) = (lst s).findIdx (· == 46) → Ev (fun k => salchowref09_number.l0 k s i) (numL (lst s)) := by
    intro d
    induction d with
    | zero =>
      intro i l hi hd hl hf
      obtain rfl : i = s.size := by omega
      obtain rfl : l = [] := by rw [← hl]; exact List.drop_eq_nil_of_le (by rw [lst_length]; omega)
      refine Ev.succ ?_
      simp only [salchowref09_number.l0]
      refine Ev.ifn (by omega) ?_
      simp only [List.findIdx_nil, Nat.add_zero] at hf
      rw [hf]; exact hj1
    | succ d ih =>
      intro i l hi hd hl hf
      cases l with
      | nil => exact absurd (at_nil hi hl) (by omega)
      | cons c l =>
        obtain ⟨h1, h2, h3⟩ := at_cons hl
        rw [findIdx_cons] at hf
        refine Ev.succ ?_
        simp only [salchowref09_number.l0]
        rw [h2, wrap_nat i (by omega)]
        refine Ev.ifp (by omega) (Ev.ifp (by omega) ?_)
        by_cases h46 : c.toNat = 46
        · rw [if_pos h46, Nat.add_zero] at hf
          refine Ev.ifp (by omega) ?_
          rw [hf]; exact hj1
        · rw [if_neg h46] at hf
          exact Ev.ifn (by omega) (ih (i + 1) l (by omega) (by omega) h3 (by omega))
  exact loop _ 0 (lst s) (by omega) rfl rfl (by omega)
/-! ### titles -/
theorem rtitle_loop (s : ByteArray) (hs : s.size ≤ 1000000) : ∀ (d i : Nat) (l : List UInt8), i ≤ s.size → s.size - i = d → (lst s).drop i = l →
    Ev (fun k => salchowref09_Title.l0 k s i) (if l.any badT then 2 else if 40 < s.size then 6 else 0) := by
  intro d
  induction d with
  | zero =>
    intro i l hi hd hl
    obtain rfl : i = s.size := by omega
    obtain rfl : l = [] := by rw [← hl]; exact List.drop_eq_nil_of_le (by rw [lst_length]; omega)
    refine Ev.succ ?_
    simp only [salchowref09_Title.l0]
    refine Ev.ifn (by omega) ?_
    by_cases h : 40 < s.size
    · exact Ev.ifp (by omega) (Ev.ret (by simp [h]))
    · exact Ev.ifn (by omega) (Ev.ret (by simp [h]))
  | succ d ih =>
    intro i l hi hd hl
    cases l with
    | nil => exact absurd (at_nil hi hl) (by omega)
    | cons c l =>
      obtain ⟨h1, h2, h3⟩ := at_cons hl
      refine Ev.succ ?_
      simp only [salchowref09_Title.l0]
      rw [h2, wrap_nat i (by omega)]
      refine Ev.ifp (by omega) (Ev.ifp (by omega) ?_)
      by_cases ha : c.toNat < 32
      · exact Ev.ifp (by omega) (Ev.ret (by simp [badT, ha]))
      · refine Ev.ifn (by omega) ?_
        by_cases hb : 126 < c.toNat
        · exact Ev.ifp (by omega) (Ev.ret (by simp [badT, hb]))
        · refine Ev.ifn (by omega) ?_
          by_cases hc : c.toNat = 34
          · exact Ev.ifp (by omega) (Ev.ret (by simp [badT, hc]))
          · refine Ev.ifn (by omega) ?_
            have : badT c = false := by simp [badT, ha, hb, hc]
            simp only [List.any_cons, this, Bool.false_or]
            exact ih (i + 1) l (by omega) (by omega) h3
theorem rtitle_f (s : ByteArray) (hs : s.size ≤ 1000000) : Ev (fun k => salchowref09_Title.f k s) (titleL (lst s)) := by
  have hloop := rtitle_loop s hs _ 0 (lst s) (by omega) rfl rfl
  unfold salchowref09_Title.f titleL
  by_cases h0 : lst s = []
  · have hz : s.size = 0 := by rw [← lst_length, h0]; rfl
    refine Ev.ifp (by omega) (Ev.succ ?_)
    simp only [salchowref09_Title.j0]
    exact Ev.ifp (by simp) (Ev.ret (by simp [h0]))
  · have hp : 0 < s.size := by
      rw [← lst_length]; exact List.length_pos_iff.2 h0
    refine Ev.ifn (by omega) (Ev.ifp (by omega) ?_)
    obtain ⟨c, hc, hb⟩ := head_bt hp
    obtain ⟨d, hd, he⟩ := last_bt hp
    rw [hb]
    have hw : wrap64 ((s.size : Int) - 1) = ((s.size - 1 : Nat) : Int) := by rw [wrap64_of (by omega) (by omega)]; omega
    rw [hw, he, hc, hd]
    have i1 : (some c = some (32 : UInt8)) ↔ c.toNat = 32 := byte_eq (by decide)
    have i2 : (some d = some (32 : UInt8)) ↔ d.toNat = 32 := byte_eq (by decide)
    by_cases h32 : c.toNat = 32
    · refine Ev.ifp (by omega) (Ev.succ ?_)
      simp only [salchowref09_Title.j0]
      exact Ev.ifp (by simp) (Ev.ret (by rw [if_pos (.inr (.inl (i1.2 h32)))]))
    · refine Ev.ifn (by omega) (Ev.ifp (by omega) (Ev.ifp (by omega) (Ev.succ ?_)))
      simp only [salchowref09_Title.j0]
      by_cases hl : d.toNat = 32
      · refine Ev.ifp (by rw [beq_iff_eq]; omega) (Ev.ret (by rw [if_pos (.inr (.inr (i2.2 hl)))]))
      · refine Ev.ifn (by rw [beq_iff_eq]; omega) ?_
        rw [if_neg (by rw [i1, i2]; simp [h0, h32, hl])]
        rw [lst_length]
        exact hloop
end Go.Proofs.YtkifdadhojbohaaDoor.Pu
namespace Go.Proofs.YtkifdadhojbohaaDoor.Pu
open Go.RowKit Go.Proofs.YtkifdadhojbohaaDoor Go.Proofs.YtkifdadhojbohaaDoor.Pr Go.Proofs.YtkifdadhojbohaaDoorW.PrintWords Go.Proofs.YtkifdadhojbohaaDoorW.PrintLast
/-- What the reference's Token answers where the rest of the source is l. -/
def tokT (n : Nat) (l : List UInt8) : Int × ByteArray × Int × Int × Int × Int :=
  if (tokL l).code = 0 then ((tokL l).kind, str (tokL l).text, (tokL l).n, (n : Int) - l.length, (n : Int) - (tokL l).rest.length, 0)
  else (0, ⟨#[]⟩, 0, 0, 0, (tokL l).code)
theorem rtext_loop (s : ByteArray) (hs : s.size ≤ 1000000) (o : Nat) : ∀ (d i : Nat) (l : List UInt8), o < i → i ≤ s.size → s.size - i = d → (lst s).drop i = l →
    Ev (fun k => salchowref09_Token.l1 k s o i) (match l.dropWhile inStr with
      | [] => (0, ⟨#[]⟩, 0, 0, 0, 2)
      | c :: r => if c.toNat = 34 then (if titleL (((lst s).take i).drop (o + 1) ++ l.takeWhile inStr) = 0 then (3, str (((lst s).take i).drop (o + 1) ++ l.takeWhile inStr), 0, (o : Int), (s.size : Int) - r.length, 0) else (0, ⟨#[]⟩, 0, 0, 0, titleL (((lst s).take i).drop (o + 1) ++ l.takeWhile inStr))) else (0, ⟨#[]⟩, 0, 0, 0, 2)) := by
  have bad : ∀ i : Nat, Ev (fun k => salchowref09_Token.j4 k s o (i : Int) true) (0, ⟨#[]⟩, 0, 0, 0, 2) := by
    intro i
    refine Ev.succ ?_
    simp only [salchowref09_Token.j4]
    exact Ev.ifp (by simp) (Ev.now _)
  intro d
  induction d with
  | zero =>
    intro i l ho hi hd hl
    obtain rfl : i = s.size := by omega
    obtain rfl : l = [] := by rw [← hl]; exact List.drop_eq_nil_of_le (by rw [lst_length]; omega)
    refine Ev.succ ?_
    simp only [salchowref09_Token.l1]
    refine Ev.ifn (by omega) (Ev.succ ?_)
    simp only [salchowref09_Token.j3]
    exact Ev.ifp (by simp) (bad _)
  | succ d ih =>
    intro i l ho hi hd hl
    cases l with
    | nil => exact absurd (at_nil hi hl) (by omega)
    | cons c l =>
      obtain ⟨h1, h2, h3⟩ := at_cons hl
      refine Ev.succ ?_
      simp only [salchowref09_Token.l1]
      rw [h2, wrap_nat i (by omega)]
      refine Ev.ifp (by omega) (Ev.ifp (by omega) ?_)
      by_cases h34 : c.toNat = 34
      · have hin' : inStr c = false := by simp [inStr, h34]
        refine Ev.ifp (by omega) (Ev.succ ?_)
        simp only [salchowref09_Token.j3]
        rw [h2]
        refine Ev.ifn (by omega) (Ev.ifp (by omega) (Ev.ifp (by omega) ?_))
        have hq : ((c.toNat : Int) != 34) = false := by rw [bne_eq_false_iff_eq]; omega
        rw [hq]
        refine Ev.succ ?_
        simp only [salchowref09_Token.j4]
        rw [wrap_nat o (by omega), wrap_nat i (by omega)]
        refine Ev.ifn (by simp) (Ev.ifp (by omega) (Ev.ifp (by omega) (Ev.ifp (by omega) ?_)))
        have hx : s.extract (((o + 1 : Nat) : Int)).toNat ((i : Int)).toNat = str (((lst s).take i).drop (o + 1)) := by
          apply lst_inj; rw [lst_extract]; rfl
        rw [hx]
        have ht := rtitle_f (str (((lst s).take i).drop (o + 1))) (by rw [size_str, List.length_drop, List.length_take, lst_length]; omega)
        refine Ev.bind ht ?_
        rw [List.dropWhile_cons_of_neg (by simp [hin']), List.takeWhile_cons_of_neg (by simp [hin']), List.append_nil]
        simp only [h34, if_true, lst_str]
        have hr : (s.size : Int) - (l.length : Int) = ((i + 1 : Nat) : Int) := by
          rw [← h3, List.length_drop, lst_length]; omega
        rw [hr]
        by_cases hz : titleL (((lst s).take i).drop (o + 1)) = 0
        · exact Ev.ifp hz (Ev.ret (by rw [if_pos hz]))
        · exact Ev.ifn hz (Ev.ret (by rw [if_neg hz]))
      · refine Ev.ifn (by omega) ?_
        by_cases h10 : c.toNat = 10
        · have hin' : inStr c = false := by simp [inStr, h10]
          refine Ev.ifp (by omega) (Ev.succ ?_)
          simp only [salchowref09_Token.j3]
          rw [h2]
          refine Ev.ifn (by omega) (Ev.ifp (by omega) (Ev.ifp (by omega) ?_))
          have hq : ((c.toNat : Int) != 34) = true := by rw [bne_iff_ne]; omega
          rw [hq, List.dropWhile_cons_of_neg (by simp [hin'])]
          simp only [h34, if_false]
          exact bad i
        · have hin' : inStr c = true := by simp [inStr, h34, h10]
          refine Ev.ifn (by omega) ?_
          have htk : ((lst s).take (i + 1)).drop (o + 1) = ((lst s).take i).drop (o + 1) ++ [c] := by
            have e : (lst s).take (i + 1) = (lst s).take i ++ [c] := by
              rw [List.take_succ_eq_append_getElem (by rw [lst_length]; exact h1)]
              congr 2
              have := congrArg (·[0]?) hl
              simp only [List.getElem?_drop, Nat.add_zero, List.getElem?_cons_zero] at this
              exact (List.getElem?_eq_some_iff.1 this).2
            rw [e, List.drop_append_of_le_length (by rw [List.length_take, lst_length]; omega)]
          have := ih (i + 1) l (by omega) (by omega) (by omega) h3
          rw [htk] at this
          rw [List.dropWhile_cons_of_pos hin', List.takeWhile_cons_of_pos hin']
          simpa only [List.append_assoc, List.singleton_append] using this
/-- A run of the reference. -/
theorem rcls (t rest : List UInt8) (ht : t ≠ []) (s : ByteArray) (hst : lst s = t) (hs : s.size ≤ 1000000) (o e : Int) :
    Ev (fun k => if s.toList = ([] : List UInt8) then (some ((0 : Int), (⟨#[]⟩ : ByteArray), (0 : Int), (0 : Int), (0 : Int), (2 : Int))) else ((salchowref09_has.f k s true false).bind fun t216 => (if t216 = true then ((salchowref09_has.f k s false true).bind fun t217 => (if t217 = true then (some (0, (⟨#[]⟩ : ByteArray), 0, 0, 0, 2)) else (if (s.size : Int) > 32 then (some (0, (⟨#[]⟩ : ByteArray), 0, 0, 0, 6)) else (some (1, s, 0, o, e, 0))))) else ((salchowref09_number.f k s).bind fun bt218 => (if bt218.2 = 0 then (some (2, (⟨#[]⟩ : ByteArray), bt218.1, o, e, 0)) else (some (0, (⟨#[]⟩ : ByteArray), 0, 0, 0, bt218.2)))))))
      (if (clsL t rest).code = 0 then ((clsL t rest).kind, str (clsL t rest).text, (clsL t rest).n, o, e, 0) else (0, ⟨#[]⟩, 0, 0, 0, (clsL t rest).code)) := by
  subst hst
  refine Ev.ifn (by rw [toList_lst]; exact ht) ?_
  have h1 := rhas_f s hs true _ 0 (lst s) (by omega) rfl rfl
  have h2 := rhas_f s hs false _ 0 (lst s) (by omega) rfl rfl
  simp only [if_true] at h1
  refine Ev.bind h1 ?_
  unfold clsL
  by_cases hl : (lst s).any isLet = true
  · refine Ev.ifp hl (Ev.bind h2 ?_)
    rw [if_pos (let_num _ hl)]
    unfold wordL
    simp only [Bool.false_eq_true, if_false, hl, if_true, lst_length]
    by_cases hd : (lst s).any isDot = true
    · refine Ev.ifp hd (Ev.ret ?_)
      simp [hd]
    · refine Ev.ifn hd ?_
      rw [Bool.not_eq_true] at hd
      simp only [hd, Bool.false_eq_true, if_false]
      by_cases h32 : 32 < s.size
      · exact Ev.ifp (by omega) (Ev.ret (by simp [h32]))
      · exact Ev.ifn (by omega) (Ev.ret (by simp [h32]))
  · refine Ev.ifn hl (Ev.bind (rnumber_f s hs) ?_)
    rw [Bool.not_eq_true] at hl
    by_cases h : (numL (lst s)).2 = 2
    · rw [if_pos h]
      refine Ev.ifn (by omega) (Ev.ret ?_)
      rw [h]
      unfold wordL
      simp [hl]
    · rw [if_neg h]
      by_cases h0 : (numL (lst s)).2 = 0
      · exact Ev.ifp h0 (Ev.ret (by simp only [h0, if_true]; rfl))
      · exact Ev.ifn h0 (Ev.ret (by simp only [h0, if_false]))
theorem rtoken_f (s : ByteArray) (hs : s.size ≤ 1000000) (o : Nat) (L : List UInt8) (ho : o ≤ s.size) (hL : (lst s).drop o = L) : Ev (fun k => salchowref09_Token.f k s o) (tokT s.size L) := by
  have hlenL : (s.size : Int) - L.length = (o : Int) := by rw [← hL, List.length_drop, lst_length]; omega
  unfold salchowref09_Token.f
  cases L with
  | nil =>
    obtain rfl := at_nil ho hL
    refine Ev.ifp rfl (Ev.ret ?_)
    simp [tokT, tokL, str]
  | cons c L =>
    obtain ⟨g1, g2, g3⟩ := at_cons hL
    refine Ev.ifn (by omega) ?_
    have hone : ((lst s).take (o + 1)).drop o = [c] := by
      rw [List.take_succ_eq_append_getElem (by rw [lst_length]; exact g1), List.drop_append_of_le_length (by rw [List.length_take, lst_length]; omega), List.drop_eq_nil_of_le (by rw [List.length_take]; omega)]
      have := congrArg (·[0]?) hL
      simp only [List.getElem?_drop, Nat.add_zero, List.getElem?_cons_zero] at this
      rw [(List.getElem?_eq_some_iff.1 this).2]; rfl
    have hj1 : ∀ (i : Nat) (l : List UInt8), o ≤ i → i ≤ s.size → (lst s).drop i = l → ((lst s).take i).drop o = (c :: L).takeWhile isRunB → l = (c :: L).dropWhile isRunB → Ev (fun k => salchowref09_Token.j1 k s o i) (tokT s.size (c :: L)) := by
      intro i l hoi hi hl ht hr
      have hx : s.extract ((o : Int)).toNat ((i : Int)).toNat = str ((c :: L).takeWhile isRunB) := by
        apply lst_inj; rw [lst_extract, lst_str, ← ht]; rfl
      have hil : (s.size : Int) - (l.length : Int) = (i : Int) := by rw [← hl, List.length_drop, lst_length]; omega
      refine Ev.succ ?_
      simp only [salchowref09_Token.j1]
      rw [g2, wrap_nat o (by omega), hx]
      refine Ev.ifp (by omega) (Ev.ifp (by omega) (Ev.ifp (by omega) (Ev.ifp (by omega) ?_)))
      unfold tokT
      rw [hlenL]
      by_cases h34 : c.toNat = 34
      · have hrun : isRunB c = false := by
          rw [← Bool.not_eq_true]; intro h
          have h2 := kind2 c.toNat; have h3 := kind3 c.toNat; have h4 := kind4 c.toNat
          simp only [isRunB, Bool.or_eq_true, beq_iff_eq, h2, h3, h4] at h; omega
        have ht2 : tokL (c :: L) = textL L := by
          unfold tokL; dsimp only; rw [if_neg (by simp [hrun]), if_pos h34]
        rw [ht2]
        refine Ev.ifp (by omega) ?_
        have h := rtext_loop s hs o _ (o + 1) L (by omega) (by omega) rfl g3
        rw [List.drop_eq_nil_of_le (by rw [List.length_take]; omega)] at h
        simp only [List.nil_append] at h
        unfold textL
        cases hd : L.dropWhile inStr with
        | nil => rw [hd] at h; simpa using h
        | cons e r =>
          rw [hd] at h
          by_cases h34 : e.toNat = 34
          · simp only [h34, if_true] at h ⊢; exact h
          · simp only [h34, if_false] at h ⊢; exact h
      · refine Ev.ifn (by omega) (Ev.bind (rsign_f c) ?_)
        by_cases h5 : kindOf c.toNat = 5
        · have hrun : isRunB c = false := by simp [isRunB, h5]
          have ht2 : tokL (c :: L) = ⟨4, [c], 0, L, 0⟩ := by
            unfold tokL; dsimp only; rw [if_neg (by simp [hrun]), if_neg h34, if_pos h5]
          rw [ht2]
          refine Ev.ifp (by simp [h5]) (Ev.ifp (by omega) (Ev.ifp (by omega) (Ev.ret ?_)))
          have hy : s.extract ((o : Int)).toNat (((o + 1 : Nat) : Int)).toNat = str [c] := by
            apply lst_inj; rw [lst_extract, lst_str, ← hone]; rfl
          have hr2 : (s.size : Int) - (L.length : Int) = ((o + 1 : Nat) : Int) := by
            rw [← g3, List.length_drop, lst_length]; omega
          rw [hy]
          simp only [if_true, hr2]
        · refine Ev.ifn (by simp [h5]) ?_
          by_cases hrun : isRunB c = true
          · have ht2 : tokL (c :: L) = clsL ((c :: L).takeWhile isRunB) ((c :: L).dropWhile isRunB) := by
              rw [List.takeWhile_cons_of_pos hrun, List.dropWhile_cons_of_pos hrun]
              unfold tokL; dsimp only; rw [if_pos hrun]
            rw [ht2, ← hr]
            have hrest : ∀ x : List UInt8, (clsL x l).rest = l := by intro x; unfold clsL; split <;> rfl
            rw [hrest, hil]
            exact rcls ((c :: L).takeWhile isRunB) l (by rw [List.takeWhile_cons_of_pos hrun]; simp) (str ((c :: L).takeWhile isRunB)) rfl (by
              rw [size_str]
              have := (List.takeWhile_prefix isRunB (l := c :: L)).length_le
              have h2 : (c :: L).length ≤ s.size := by rw [← hL, List.length_drop, lst_length]; omega
              omega) o i
          · have ht2 : tokL (c :: L) = ⟨0, [], 0, [], 2⟩ := by
              unfold tokL; dsimp only; rw [if_neg hrun, if_neg h34, if_neg h5]
            rw [ht2, List.takeWhile_cons_of_neg hrun]
            exact Ev.ifp (by rw [toList_lst]; rfl) (Ev.ret (by simp))
    have loop : ∀ (d i : Nat) (l : List UInt8), o ≤ i → i ≤ s.size → s.size - i = d → (lst s).drop i = l → (((lst s).take i).drop o) ++ l.takeWhile isRunB = (c :: L).takeWhile isRunB → l.dropWhile isRunB = (c :: L).dropWhile isRunB →
        Ev (fun k => salchowref09_Token.l0 k s o i) (tokT s.size (c :: L)) := by
      intro d
      induction d with
      | zero =>
        intro i l hoi hi hd hl ht hr
        obtain rfl : i = s.size := by omega
        obtain rfl : l = [] := by rw [← hl]; exact List.drop_eq_nil_of_le (by rw [lst_length]; omega)
        refine Ev.succ ?_
        simp only [salchowref09_Token.l0]
        exact Ev.ifn (by omega) (hj1 _ [] hoi hi hl (by simpa using ht) (by simpa using hr))
      | succ d ih =>
        intro i l hoi hi hd hl ht hr
        cases l with
        | nil => exact absurd (at_nil hi hl) (by omega)
        | cons e l =>
          obtain ⟨h1, h2, h3⟩ := at_cons hl
          refine Ev.succ ?_
          simp only [salchowref09_Token.l0]
          rw [h2, wrap_nat i (by omega)]
          refine Ev.ifp (by omega) (Ev.ifp (by omega) (Ev.val (rrun_f e) ?_))
          by_cases hrn : isRunB e = true
          · refine Ev.ifp hrn ?_
            have htk : ((lst s).take (i + 1)).drop o = ((lst s).take i).drop o ++ [e] := by
              have e2 : (lst s).take (i + 1) = (lst s).take i ++ [e] := by
                rw [List.take_succ_eq_append_getElem (by rw [lst_length]; exact h1)]
                congr 2
                have := congrArg (·[0]?) hl
                simp only [List.getElem?_drop, Nat.add_zero, List.getElem?_cons_zero] at this
                exact (List.getElem?_eq_some_iff.1 this).2
              rw [e2, List.drop_append_of_le_length (by rw [List.length_take, lst_length]; omega)]
            rw [List.takeWhile_cons_of_pos hrn] at ht
            rw [List.dropWhile_cons_of_pos hrn] at hr
            refine ih (i + 1) l (by omega) (by omega) (by omega) h3 ?_ hr
            rw [htk, List.append_assoc, List.singleton_append]; exact ht
          · refine Ev.ifn hrn ?_
            rw [List.takeWhile_cons_of_neg hrn, List.append_nil] at ht
            rw [List.dropWhile_cons_of_neg hrn] at hr
            exact hj1 i (e :: l) hoi hi hl ht hr
    exact loop _ o (c :: L) (by omega) ho rfl hL (by rw [List.drop_eq_nil_of_le (by rw [List.length_take]; omega)]; rfl) rfl
theorem rnext_f (s : ByteArray) (hs : s.size ≤ 65536) (i : Nat) (hi : i ≤ s.size) : Ev (fun k => salchowref09_Next.f k s i) (nextT s.size (skipL false ((lst s).drop i))) := by
  unfold salchowref09_Next.f
  refine Ev.ifn (by omega) (Ev.ifn (by omega) ?_)
  have : decide ((i : Int) > (s.size : Int)) = false := by simp; omega
  rw [this]
  refine Ev.succ ?_
  simp only [salchowref09_Next.j0]
  refine Ev.ifn (by simp) (Ev.bind (rskip_f s (by omega) i hi) ?_)
  obtain ⟨j, hj, hl, he⟩ := suffix_at ((skipL_suffix ((lst s).drop i) false).trans (List.drop_suffix i (lst s)))
  rw [he]
  generalize skipL false ((lst s).drop i) = l at hl he ⊢
  refine Ev.bind (rtoken_f s (by omega) j l hj hl) ?_
  unfold tokT nextT
  by_cases hc : (tokL l).code = 0
  · rw [if_pos hc, if_pos hc]
    exact Ev.ifp rfl (Ev.now _)
  · rw [if_neg hc, if_neg hc, he]
    exact Ev.ret (by rw [if_neg hc])
theorem rLex_f (s : ByteArray) (hs : s.size ≤ 65536) : Ev (fun k => salchowref09_Lex.f k s) (lexAns s.size [] (lexL (s.size + 1) (lst s))) := by
  unfold salchowref09_Lex.f
  exact lex_any s (by omega) (fun k i => salchowref09_Next.f k s i) (fun i hi => rnext_f s (by omega) i hi) (fun k a i => salchowref09_Lex.l0 k s a i) (fun k a i => by simp only [salchowref09_Lex.l0]) (s.size + 1) 0 (lst s) [] (by omega) rfl (by rw [lst_length]; omega) (by simp)
end Go.Proofs.YtkifdadhojbohaaDoor.Pu
