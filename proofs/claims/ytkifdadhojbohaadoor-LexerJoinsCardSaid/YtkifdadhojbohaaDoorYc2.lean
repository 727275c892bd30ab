/- Joined out of the texts of this proof that bear the names PrF55 PuB PuC PrF25 PuD: what each shows stands over it there. -/
import Derived.Test.YtkifdadhojbohaaDoorYb1
import Derived.Test.YtkifdadhojbohaaDoorYc1
set_option linter.unusedVariables false
set_option linter.unusedSimpArgs false
namespace Go.Proofs.YtkifdadhojbohaaDoor.Pr
open Go.Proofs.YtkifdadhojbohaaDoor
open Go.RowKit Go.Proofs.YtkifdadhojbohaaDoorW.PrintWords Go.Proofs.YtkifdadhojbohaaDoorW.PrintLast Go.Proofs.YtkifdadhojbohaaDoorW.PrintMore
attribute [local go_sem] max2_int min2_int max_two min_two max_three min_three max_four min_four   -- for this text's walks alone
set_option linter.unusedVariables false
set_option linter.unusedSimpArgs false
/-! ### lexer_next: function 55 -/
mutual
def lexer_next.j2 : Nat → Int → Int → Int → Int → ByteArray → Int → Int → Option (Int × ByteArray × Int × Int × Int × Int × Int)
  | 0, _, _, _, _, _, _, _ => none
  | k + 1, x1, x8, x9, x122000, x122001, x122002, x122003 => if x9 = 0 then (some (x122000, x122001, x122002, x1, x8, 0, 0)) else (some (0, (⟨#[]⟩ : ByteArray), 0, 0, 0, x9, x1))
def lexer_next.j1 : Nat → ByteArray → Int → Int → Option (Int × ByteArray × Int × Int × Int × Int × Int)
  | 0, _, _, _ => none
  | k + 1, x0, x1, x8 => if 0 ≤ x1 then (if x1 ≤ x8 then (if x8 ≤ (x0.size : Int) then ((lexer_run.f k (x0.extract (x1 : Int).toNat (x8 : Int).toNat)).bind fun bt124 => (lexer_next.j2 k x1 x8 bt124.2.2.2.2 bt124.1 bt124.2.1 bt124.2.2.1 bt124.2.2.2.1)) else (none)) else (none)) else (none)
def lexer_next.l0 : Nat → ByteArray → Int → Int → Option (Int × ByteArray × Int × Int × Int × Int × Int)
  | 0, _, _, _ => none
  | k + 1, x0, x1, x8 => if x8 < (x0.size : Int) then (if 0 ≤ x8 then ((lexer_isRun.f (bt x0 x8)).bind fun t123 => (if t123 = true then (lexer_next.l0 k x0 x1 (wrap64 (x8 + 1))) else (lexer_next.j1 k x0 x1 x8))) else (none)) else (lexer_next.j1 k x0 x1 x8)
end
def lexer_next.f (k : Nat) (a0 : ByteArray) (a1 : Int) : Option (Int × ByteArray × Int × Int × Int × Int × Int) := (lexer_skip.f k a0 a1).bind fun t120 => (if t120 = (a0.size : Int) then (some (5, (⟨#[]⟩ : ByteArray), 0, t120, t120, 0, 0)) else (if 0 ≤ t120 then (if t120 < (a0.size : Int) then ((lexer_isRun.f (bt a0 t120)).bind fun t122 => (if t122 = true then (lexer_next.l0 k a0 t120 (wrap64 (t120 + 1))) else (if (bt a0 t120) = 34 then ((lexer_text.f k a0 t120).bind fun bt129 => (lexer_next.j2 k t120 bt129.2.2.2.2.1 bt129.2.2.2.2.2 bt129.1 bt129.2.1 bt129.2.2.1 bt129.2.2.2.1)) else ((lexer_kinds.f).bind fun t135 => (if 0 ≤ (bt a0 t120) then (if (bt a0 t120) < 256 then (if (lexer_kinds.at_ (bt a0 t120)) = 5 then (if t120 ≤ (wrap64 (t120 + 1)) then (if (wrap64 (t120 + 1)) ≤ (a0.size : Int) then (lexer_next.j2 k t120 (wrap64 (t120 + 1)) 0 4 (a0.extract (t120 : Int).toNat ((wrap64 (t120 + 1)) : Int).toNat) 0 0) else (none)) else (none)) else (lexer_next.j2 k t120 (wrap64 (t120 + 1)) 2 0 (⟨#[]⟩ : ByteArray) 0 0)) else (none)) else (none)))))) else (none)) else (none)))
theorem lexer_next.mono_l : ∀ k, (∀ y0 y1 y2 y3 y4 y5 y6, LeO (lexer_next.j2 k y0 y1 y2 y3 y4 y5 y6) (lexer_next.j2 (k + 1) y0 y1 y2 y3 y4 y5 y6)) ∧ (∀ y0 y1 y2, LeO (lexer_next.j1 k y0 y1 y2) (lexer_next.j1 (k + 1) y0 y1 y2)) ∧ (∀ y0 y1 y2, LeO (lexer_next.l0 k y0 y1 y2) (lexer_next.l0 (k + 1) y0 y1 y2))
  | 0 => ⟨fun _ _ _ _ _ _ _ r h => by simp [lexer_next.j2] at h, fun _ _ _ r h => by simp [lexer_next.j1] at h, fun _ _ _ r h => by simp [lexer_next.l0] at h⟩
  | k + 1 => by
    obtain ⟨ih0, ih1, ih2⟩ := lexer_next.mono_l k
    refine ⟨?_, ?_, ?_⟩
    · intro y0 y1 y2 y3 y4 y5 y6
      unfold lexer_next.j2
      repeat' first
      | (with_reducible exact ih0 _ _ _ _ _ _ _)
      | (with_reducible exact ih1 _ _ _)
      | (with_reducible exact ih2 _ _ _)
      | (with_reducible exact lexer_run.mono _ _)
      | (with_reducible exact lexer_skip.mono _ _ _)
      | (with_reducible exact lexer_text.mono _ _ _)
      | (with_reducible exact LeO.refl _)
      | (with_reducible exact LeO.none _)
      | (with_reducible refine LeO.ite ?_ ?_)
      | (with_reducible refine LeO.bind ?_ (fun _ => ?_))
      | exact ih0 _ _ _ _ _ _ _
      | exact ih1 _ _ _
      | exact ih2 _ _ _
      | exact lexer_run.mono _ _
      | exact lexer_skip.mono _ _ _
      | exact lexer_text.mono _ _ _
      | exact LeO.none _
      | refine LeO.ite ?_ ?_
      | refine LeO.bind ?_ (fun _ => ?_)
    · intro y0 y1 y2
      unfold lexer_next.j1
      repeat' first
      | (with_reducible exact ih0 _ _ _ _ _ _ _)
      | (with_reducible exact ih1 _ _ _)
      | (with_reducible exact ih2 _ _ _)
      | (with_reducible exact lexer_run.mono _ _)
      | (with_reducible exact lexer_skip.mono _ _ _)
      | (with_reducible exact lexer_text.mono _ _ _)
      | (with_reducible exact LeO.refl _)
      | (with_reducible exact LeO.none _)
      | (with_reducible refine LeO.ite ?_ ?_)
      | (with_reducible refine LeO.bind ?_ (fun _ => ?_))
      | exact ih0 _ _ _ _ _ _ _
      | exact ih1 _ _ _
      | exact ih2 _ _ _
      | exact lexer_run.mono _ _
      | exact lexer_skip.mono _ _ _
      | exact lexer_text.mono _ _ _
      | exact LeO.none _
      | refine LeO.ite ?_ ?_
      | refine LeO.bind ?_ (fun _ => ?_)
    · intro y0 y1 y2
      unfold lexer_next.l0
      repeat' first
      | (with_reducible exact ih0 _ _ _ _ _ _ _)
      | (with_reducible exact ih1 _ _ _)
      | (with_reducible exact ih2 _ _ _)
      | (with_reducible exact lexer_run.mono _ _)
      | (with_reducible exact lexer_skip.mono _ _ _)
      | (with_reducible exact lexer_text.mono _ _ _)
      | (with_reducible exact LeO.refl _)
      | (with_reducible exact LeO.none _)
      | (with_reducible refine LeO.ite ?_ ?_)
      | (with_reducible refine LeO.bind ?_ (fun _ => ?_))
      | exact ih0 _ _ _ _ _ _ _
      | exact ih1 _ _ _
      | exact ih2 _ _ _
      | exact lexer_run.mono _ _
      | exact lexer_skip.mono _ _ _
      | exact lexer_text.mono _ _ _
      | exact LeO.none _
      | refine LeO.ite ?_ ?_
      | refine LeO.bind ?_ (fun _ => ?_)
theorem lexer_next.mono : ∀ a0 a1 k, LeO (lexer_next.f k a0 a1) (lexer_next.f (k + 1) a0 a1) := by
  intro a0 a1 k
  obtain ⟨ih0, ih1, ih2⟩ := lexer_next.mono_l k
  unfold lexer_next.f
  repeat' first
      | (with_reducible exact ih0 _ _ _ _ _ _ _)
      | (with_reducible exact ih1 _ _ _)
      | (with_reducible exact ih2 _ _ _)
      | (with_reducible exact lexer_run.mono _ _)
      | (with_reducible exact lexer_skip.mono _ _ _)
      | (with_reducible exact lexer_text.mono _ _ _)
      | (with_reducible exact LeO.refl _)
      | (with_reducible exact LeO.none _)
      | (with_reducible refine LeO.ite ?_ ?_)
      | (with_reducible refine LeO.bind ?_ (fun _ => ?_))
      | exact ih0 _ _ _ _ _ _ _
      | exact ih1 _ _ _
      | exact ih2 _ _ _
      | exact lexer_run.mono _ _
      | exact lexer_skip.mono _ _ _
      | exact lexer_text.mono _ _ _
      | exact LeO.none _
      | refine LeO.ite ?_ ?_
      | refine LeO.bind ?_ (fun _ => ?_)
set_option maxHeartbeats 8000000 in
set_option maxRecDepth 100000 in
theorem lexer_next.calls (k : Nat) (a0 : ByteArray) (a1 : Int) (r1 : Int) (r2 : ByteArray) (r3 : Int) (r4 : Int) (r5 : Int) (r6 : Int) (r7 : Int) (w : World) (h : lexer_next.f k a0 a1 = some (r1, r2, r3, r4, r5, r6, r7)) :
    Calls Tryd.prog 55 #[.string a0, .int .i64 a1] w fun e w' => e = .returned (.tuple #[.agg #[.int .i64 r1, .string r2, .int .i64 r3, .int .i64 r4], .int .i64 r5, .agg #[.int .i64 r6, .int .i64 r7]]) ∧ Below w.heap.size w w' := by
  have hu46 := Tryd.underlying46
  have hu26 := Tryd.underlying26
  have HB := Aside0.mk (Below.refl w.heap.size w)
  have H : ((lexer_skip.f k a0 a1).bind fun t120 => (if t120 = (a0.size : Int) then (some (5, (⟨#[]⟩ : ByteArray), 0, t120, t120, 0, 0)) else (if 0 ≤ t120 then (if t120 < (a0.size : Int) then ((lexer_isRun.f (bt a0 t120)).bind fun t122 => (if t122 = true then (lexer_next.l0 k a0 t120 (wrap64 (t120 + 1))) else (if (bt a0 t120) = 34 then ((lexer_text.f k a0 t120).bind fun bt129 => (lexer_next.j2 k t120 bt129.2.2.2.2.1 bt129.2.2.2.2.2 bt129.1 bt129.2.1 bt129.2.2.1 bt129.2.2.2.1)) else ((lexer_kinds.f).bind fun t135 => (if 0 ≤ (bt a0 t120) then (if (bt a0 t120) < 256 then (if (lexer_kinds.at_ (bt a0 t120)) = 5 then (if t120 ≤ (wrap64 (t120 + 1)) then (if (wrap64 (t120 + 1)) ≤ (a0.size : Int) then (lexer_next.j2 k t120 (wrap64 (t120 + 1)) 0 4 (a0.extract (t120 : Int).toNat ((wrap64 (t120 + 1)) : Int).toNat) 0 0) else (none)) else (none)) else (lexer_next.j2 k t120 (wrap64 (t120 + 1)) 2 0 (⟨#[]⟩ : ByteArray) 0 0)) else (none)) else (none)))))) else (none)) else (none)))) = some (r1, r2, r3, r4, r5, r6, r7) := h
  clear h
  replace H := Option.bind_eq_some_iff.mp H
  obtain ⟨t120, A30, H⟩ := H
  replace H : (if t120 = (a0.size : Int) then (some (5, (⟨#[]⟩ : ByteArray), 0, t120, t120, 0, 0)) else (if 0 ≤ t120 then (if t120 < (a0.size : Int) then ((lexer_isRun.f (bt a0 t120)).bind fun t122 => (if t122 = true then (lexer_next.l0 k a0 t120 (wrap64 (t120 + 1))) else (if (bt a0 t120) = 34 then ((lexer_text.f k a0 t120).bind fun bt129 => (lexer_next.j2 k t120 bt129.2.2.2.2.1 bt129.2.2.2.2.2 bt129.1 bt129.2.1 bt129.2.2.1 bt129.2.2.2.1)) else ((lexer_kinds.f).bind fun t135 => (if 0 ≤ (bt a0 t120) then (if (bt a0 t120) < 256 then (if (lexer_kinds.at_ (bt a0 t120)) = 5 then (if t120 ≤ (wrap64 (t120 + 1)) then (if (wrap64 (t120 + 1)) ≤ (a0.size : Int) then (lexer_next.j2 k t120 (wrap64 (t120 + 1)) 0 4 (a0.extract (t120 : Int).toNat ((wrap64 (t120 + 1)) : Int).toNat) 0 0) else (none)) else (none)) else (lexer_next.j2 k t120 (wrap64 (t120 + 1)) 2 0 (⟨#[]⟩ : ByteArray) 0 0)) else (none)) else (none)))))) else (none)) else (none))) = some (r1, r2, r3, r4, r5, r6, r7) := H
  have A3 := Aside0.mk A30
  clear A30
  by_cases c4 : t120 = (a0.size : Int)
  · rw [if_pos c4] at H
    have c4b0 : (t120 == (a0.size : Int)) = true := beq_iff_eq.mpr c4
    have c4b1 : (t120 != (a0.size : Int)) = false := bne_eq_false_iff_eq.mpr c4
    clear c4
    simp only [Option.some.injEq, Prod.mk.injEq] at H
    obtain ⟨rfl, rfl, rfl, rfl, rfl, rfl, rfl⟩ := H
    go_enter Tryd.func55, Tryd.ntmps55
    go_wp2_with (first | ((with_reducible refine gate_dst (N := 4) rfl ?_); refine box_event ?hg (N := 4) ?hd (cs := #[.int .i64 0, .string (⟨#[]⟩ : ByteArray), .int .i64 0, .int .i64 0]) (t := 46) ?hr ?_; (case hd => rfl); (case hg => rfl); (case hr => first | (go_simp; done) | (go_simp; rfl)); intro gb118 hg w5 hbox hb; have n0_ := Aside0.mk (below_step (bl_ HB.out) hb); have n1_ := Aside0.mk (hbox); have n2_ := Aside0.mk ((by rw [hg]; exact (below_size (bl_ HB.out)) : w.heap.size ≤ gb118)); have n3_ := Aside0.mk ((by rw [hg]; exact (below_size (bl_ HB.out)) : w.heap.size ≤ gb118)); clear HB; have HB := n0_; have BK118 := n1_; have GW118 := n2_; have GE118 := n3_; clear n0_ n1_ n2_ n3_; clear hb hbox hg) | ((with_reducible refine gate_dst (N := 6) rfl ?_); refine box_event ?hg (N := 6) ?hd (cs := #[.int .i64 0, .int .i64 0]) (t := 26) ?hr ?_; (case hd => rfl); (case hg => rfl); (case hr => first | (go_simp; done) | (go_simp; rfl)); intro gb119 hg w6 hbox hb; have n0_ := Aside0.mk (blk_below (g := gb118) (o := .cells #[.int .i64 0, .string (⟨#[]⟩ : ByteArray), .int .i64 0, .int .i64 0] 46 (0, 0)) (bk_ BK118.out) hb); have n1_ := Aside0.mk (below_step (bl1_ HB.out GE118.out) hb); have n2_ := Aside0.mk (hbox); have n3_ := Aside0.mk ((by rw [hg]; exact (below_size (bl1_ HB.out GE118.out)) : w.heap.size ≤ gb119)); have n4_ := Aside0.mk ((by rw [hg]; exact (below_size (bl1_ HB.out GE118.out)) : w.heap.size ≤ gb119)); have n5_ := Aside0.mk ((by rw [hg]; exact Nat.ne_of_lt (blk_lt (g := gb118) (o := .cells #[.int .i64 0, .string (⟨#[]⟩ : ByteArray), .int .i64 0, .int .i64 0] 46 (0, 0)) (bk_ BK118.out)) : gb118 ≠ gb119)); have n6_ := Aside0.mk ((by rw [hg]; exact Nat.ne_of_gt (blk_lt (g := gb118) (o := .cells #[.int .i64 0, .string (⟨#[]⟩ : ByteArray), .int .i64 0, .int .i64 0] 46 (0, 0)) (bk_ BK118.out)) : gb119 ≠ gb118)); clear BK118; clear HB; have BK118 := n0_; have HB := n1_; have BK119 := n2_; have GW119 := n3_; have GE119 := n4_; have NB118_119 := n5_; have NB119_118 := n6_; clear n0_ n1_ n2_ n3_ n4_ n5_ n6_; clear hb hbox hg) | ((with_reducible refine gate_callee (f := 81) rfl ?_); refine goesL_ (some 13) rfl rfl Tryd.func81 (by kernel_rfl) rfl #[.string a0, .int .i64 a1] rfl (by (try simp only [List.map_toArray, List.map_cons, List.map_nil]); first | done | rfl | (simp only [List.length_drop, List.length_take]; rfl)) ?_; (with_reducible refine (lexer_skip.calls k a0 a1 t120 _ A3.out).mono ?_); rintro e w7 ⟨rfl, hb⟩; refine ⟨_, rfl, ?_⟩; have n0_ := Aside0.mk (blk_below (g := gb118) (o := .cells #[.int .i64 0, .string (⟨#[]⟩ : ByteArray), .int .i64 0, .int .i64 0] 46 (0, 0)) (bk_ BK118.out) hb); have n1_ := Aside0.mk (blk_below (g := gb119) (o := .cells #[.int .i64 0, .int .i64 0] 26 (0, 0)) (bk_ BK119.out) hb); have n2_ := Aside0.mk (below_step (bl2_ HB.out GE118.out GE119.out) hb); clear BK118; clear BK119; clear HB; have BK118 := n0_; have BK119 := n1_; have HB := n2_; clear n0_ n1_ n2_; (try clear hb); (try clear hb2); (try clear hk); (try clear hi); have hnb8 := NB118_119.out; have hnc8 := NB119_118.out; have hcz9_0 : w7.cell? ⟨gb118, 0, none⟩ = some (.int .i64 0) := (blk_cell BK118.out 0).trans rfl; have hcz9_1 : w7.cell? ⟨gb118, 1, none⟩ = some (.string (⟨#[]⟩ : ByteArray)) := (blk_cell BK118.out 1).trans rfl; have hcz9_2 : w7.cell? ⟨gb118, 2, none⟩ = some (.int .i64 0) := (blk_cell BK118.out 2).trans rfl; have hcz9_3 : w7.cell? ⟨gb118, 3, none⟩ = some (.int .i64 0) := (blk_cell BK118.out 3).trans rfl; have hfz9_0 := blk_frozen BK118.out 0; have hfz9_1 := blk_frozen BK118.out 1; have hfz9_2 := blk_frozen BK118.out 2; have hfz9_3 := blk_frozen BK118.out 3; have hcz10_0 : w7.cell? ⟨gb119, 0, none⟩ = some (.int .i64 0) := (blk_cell BK119.out 0).trans rfl; have hcz10_1 : w7.cell? ⟨gb119, 1, none⟩ = some (.int .i64 0) := (blk_cell BK119.out 1).trans rfl; have hfz10_0 := blk_frozen BK119.out 0; have hfz10_1 := blk_frozen BK119.out 1))
    refine bodyPost_ret (results_list (rs := [.cell 4 46, .tmp 5, .cell 6 26]) rfl (by simp) (.cell gb118 46 #[.int .i64 5, .string (⟨#[]⟩ : ByteArray), .int .i64 0, .int .i64 t120] (0, 0) _ rfl (by (with_reducible repeat (first | refine blk_drewN ?_ _ | refine blk_drew ?_ | refine blk_alloc ?_ _)); refine blk_far ?_ NB118_119.out _; (with_reducible repeat (first | refine blk_drewN ?_ _ | refine blk_drew ?_ | refine blk_alloc ?_ _)); refine blk_far ?_ NB118_119.out _; (with_reducible repeat (first | refine blk_drewN ?_ _ | refine blk_drew ?_ | refine blk_alloc ?_ _)); refine blk_put (cs := #[.int .i64 5, .string (⟨#[]⟩ : ByteArray), .int .i64 0, .int .i64 0]) ?_ 3 _ rfl; (with_reducible repeat (first | refine blk_drewN ?_ _ | refine blk_drew ?_ | refine blk_alloc ?_ _)); refine blk_put (cs := #[.int .i64 5, .string (⟨#[]⟩ : ByteArray), .int .i64 0, .int .i64 0]) ?_ 2 _ rfl; (with_reducible repeat (first | refine blk_drewN ?_ _ | refine blk_drew ?_ | refine blk_alloc ?_ _)); refine blk_put (cs := #[.int .i64 5, .string (⟨#[]⟩ : ByteArray), .int .i64 0, .int .i64 0]) ?_ 1 _ rfl; (with_reducible repeat (first | refine blk_drewN ?_ _ | refine blk_drew ?_ | refine blk_alloc ?_ _)); refine blk_put (cs := #[.int .i64 0, .string (⟨#[]⟩ : ByteArray), .int .i64 0, .int .i64 0]) ?_ 0 _ rfl; (with_reducible repeat (first | refine blk_drewN ?_ _ | refine blk_drew ?_ | refine blk_alloc ?_ _)); exact BK118.out) Tryd.underlying46 rfl (by kernel_rfl) (.tmp (.cell gb119 26 #[.int .i64 0, .int .i64 0] (0, 0) _ rfl (by (with_reducible repeat (first | refine blk_drewN ?_ _ | refine blk_drew ?_ | refine blk_alloc ?_ _)); refine blk_put (cs := #[.int .i64 0, .int .i64 0]) ?_ 1 _ rfl; (with_reducible repeat (first | refine blk_drewN ?_ _ | refine blk_drew ?_ | refine blk_alloc ?_ _)); refine blk_put (cs := #[.int .i64 0, .int .i64 0]) ?_ 0 _ rfl; (with_reducible repeat (first | refine blk_drewN ?_ _ | refine blk_drew ?_ | refine blk_alloc ?_ _)); refine blk_far ?_ NB119_118.out _; (with_reducible repeat (first | refine blk_drewN ?_ _ | refine blk_drew ?_ | refine blk_alloc ?_ _)); refine blk_far ?_ NB119_118.out _; (with_reducible repeat (first | refine blk_drewN ?_ _ | refine blk_drew ?_ | refine blk_alloc ?_ _)); refine blk_far ?_ NB119_118.out _; (with_reducible repeat (first | refine blk_drewN ?_ _ | refine blk_drew ?_ | refine blk_alloc ?_ _)); refine blk_far ?_ NB119_118.out _; (with_reducible repeat (first | refine blk_drewN ?_ _ | refine blk_drew ?_ | refine blk_alloc ?_ _)); exact BK119.out) Tryd.underlying26 rfl (by kernel_rfl) .nil)))) rfl ?_
    exact ⟨er_, bl2_ HB.out GE118.out GE119.out⟩
  · rw [if_neg c4] at H
    have c4b0 : (t120 == (a0.size : Int)) = false := beq_eq_false_iff_ne.mpr c4
    have c4b1 : (t120 != (a0.size : Int)) = true := bne_iff_ne.mpr c4
    by_cases c11 : 0 ≤ t120
    · rw [if_pos c11] at H
      have c11b0 : decide (0 ≤ t120) = true := decide_eq_true c11
      clear c11
      by_cases c12 : t120 < (a0.size : Int)
      · rw [if_pos c12] at H
        have c12b0 : decide (t120 < (a0.size : Int)) = true := decide_eq_true c12
        clear c12
        have HC14 := Aside0.mk H
        clear H
        go_enter Tryd.func55, Tryd.ntmps55
        go_upto_block 0 with (first | ((with_reducible refine gate_dst (N := 4) rfl ?_); refine box_event ?hg (N := 4) ?hd (cs := #[.int .i64 0, .string (⟨#[]⟩ : ByteArray), .int .i64 0, .int .i64 0]) (t := 46) ?hr ?_; (case hd => rfl); (case hg => rfl); (case hr => first | (go_simp; done) | (go_simp; rfl)); intro gb118 hg w15 hbox hb; have n0_ := Aside0.mk (below_step (bl_ HB.out) hb); have n1_ := Aside0.mk (hbox); have n2_ := Aside0.mk ((by rw [hg]; exact (below_size (bl_ HB.out)) : w.heap.size ≤ gb118)); have n3_ := Aside0.mk ((by rw [hg]; exact (below_size (bl_ HB.out)) : w.heap.size ≤ gb118)); clear HB; have HB := n0_; have BK118 := n1_; have GW118 := n2_; have GE118 := n3_; clear n0_ n1_ n2_ n3_; clear hb hbox hg) | ((with_reducible refine gate_dst (N := 6) rfl ?_); refine box_event ?hg (N := 6) ?hd (cs := #[.int .i64 0, .int .i64 0]) (t := 26) ?hr ?_; (case hd => rfl); (case hg => rfl); (case hr => first | (go_simp; done) | (go_simp; rfl)); intro gb119 hg w16 hbox hb; have n0_ := Aside0.mk (blk_below (g := gb118) (o := .cells #[.int .i64 0, .string (⟨#[]⟩ : ByteArray), .int .i64 0, .int .i64 0] 46 (0, 0)) (bk_ BK118.out) hb); have n1_ := Aside0.mk (below_step (bl1_ HB.out GE118.out) hb); have n2_ := Aside0.mk (hbox); have n3_ := Aside0.mk ((by rw [hg]; exact (below_size (bl1_ HB.out GE118.out)) : w.heap.size ≤ gb119)); have n4_ := Aside0.mk ((by rw [hg]; exact (below_size (bl1_ HB.out GE118.out)) : w.heap.size ≤ gb119)); have n5_ := Aside0.mk ((by rw [hg]; exact Nat.ne_of_lt (blk_lt (g := gb118) (o := .cells #[.int .i64 0, .string (⟨#[]⟩ : ByteArray), .int .i64 0, .int .i64 0] 46 (0, 0)) (bk_ BK118.out)) : gb118 ≠ gb119)); have n6_ := Aside0.mk ((by rw [hg]; exact Nat.ne_of_gt (blk_lt (g := gb118) (o := .cells #[.int .i64 0, .string (⟨#[]⟩ : ByteArray), .int .i64 0, .int .i64 0] 46 (0, 0)) (bk_ BK118.out)) : gb119 ≠ gb118)); clear BK118; clear HB; have BK118 := n0_; have HB := n1_; have BK119 := n2_; have GW119 := n3_; have GE119 := n4_; have NB118_119 := n5_; have NB119_118 := n6_; clear n0_ n1_ n2_ n3_ n4_ n5_ n6_; clear hb hbox hg) | ((with_reducible refine gate_callee (f := 81) rfl ?_); refine goesL_ (some 13) rfl rfl Tryd.func81 (by kernel_rfl) rfl #[.string a0, .int .i64 a1] rfl (by (try simp only [List.map_toArray, List.map_cons, List.map_nil]); first | done | rfl | (simp only [List.length_drop, List.length_take]; rfl)) ?_; (with_reducible refine (lexer_skip.calls k a0 a1 t120 _ A3.out).mono ?_); rintro e w17 ⟨rfl, hb⟩; refine ⟨_, rfl, ?_⟩; have n0_ := Aside0.mk (blk_below (g := gb118) (o := .cells #[.int .i64 0, .string (⟨#[]⟩ : ByteArray), .int .i64 0, .int .i64 0] 46 (0, 0)) (bk_ BK118.out) hb); have n1_ := Aside0.mk (blk_below (g := gb119) (o := .cells #[.int .i64 0, .int .i64 0] 26 (0, 0)) (bk_ BK119.out) hb); have n2_ := Aside0.mk (below_step (bl2_ HB.out GE118.out GE119.out) hb); clear BK118; clear BK119; clear HB; have BK118 := n0_; have BK119 := n1_; have HB := n2_; clear n0_ n1_ n2_; (try clear hb); (try clear hb2); (try clear hk); (try clear hi)) | ((with_reducible refine gate_dst (N := 7) rfl ?_); refine box_event ?hg (N := 7) ?hd (cs := #[.int .i64 0, .string (⟨#[]⟩ : ByteArray), .int .i64 0, .int .i64 0]) (t := 46) ?hr ?_; (case hd => rfl); (case hg => rfl); (case hr => first | (go_simp; done) | (go_simp; rfl)); intro gb121 hg w18 hbox hb; have n0_ := Aside0.mk (blk_below (g := gb118) (o := .cells #[.int .i64 0, .string (⟨#[]⟩ : ByteArray), .int .i64 0, .int .i64 0] 46 (0, 0)) (bk_ BK118.out) hb); have n1_ := Aside0.mk (blk_below (g := gb119) (o := .cells #[.int .i64 0, .int .i64 0] 26 (0, 0)) (bk_ BK119.out) hb); have n2_ := Aside0.mk (below_step (bl2_ HB.out GE118.out GE119.out) hb); have n3_ := Aside0.mk (hbox); have n4_ := Aside0.mk ((by rw [hg]; exact (below_size (bl2_ HB.out GE118.out GE119.out)) : w.heap.size ≤ gb121)); have n5_ := Aside0.mk ((by rw [hg]; exact (below_size (bl2_ HB.out GE118.out GE119.out)) : w.heap.size ≤ gb121)); have n6_ := Aside0.mk ((by rw [hg]; exact Nat.ne_of_lt (blk_lt (g := gb118) (o := .cells #[.int .i64 0, .string (⟨#[]⟩ : ByteArray), .int .i64 0, .int .i64 0] 46 (0, 0)) (bk_ BK118.out)) : gb118 ≠ gb121)); have n7_ := Aside0.mk ((by rw [hg]; exact Nat.ne_of_gt (blk_lt (g := gb118) (o := .cells #[.int .i64 0, .string (⟨#[]⟩ : ByteArray), .int .i64 0, .int .i64 0] 46 (0, 0)) (bk_ BK118.out)) : gb121 ≠ gb118)); have n8_ := Aside0.mk ((by rw [hg]; exact Nat.ne_of_lt (blk_lt (g := gb119) (o := .cells #[.int .i64 0, .int .i64 0] 26 (0, 0)) (bk_ BK119.out)) : gb119 ≠ gb121)); have n9_ := Aside0.mk ((by rw [hg]; exact Nat.ne_of_gt (blk_lt (g := gb119) (o := .cells #[.int .i64 0, .int .i64 0] 26 (0, 0)) (bk_ BK119.out)) : gb121 ≠ gb119)); clear BK118; clear BK119; clear HB; have BK118 := n0_; have BK119 := n1_; have HB := n2_; have BK121 := n3_; have GW121 := n4_; have GE121 := n5_; have NB118_121 := n6_; have NB121_118 := n7_; have NB119_121 := n8_; have NB121_119 := n9_; clear n0_ n1_ n2_ n3_ n4_ n5_ n6_ n7_ n8_ n9_; clear hb hbox hg; have p13 : 0 ≤ (t120 : Int) := of_decide_eq_true (by first | (with_reducible assumption) | assumption); have q13 : t120 < (a0.size : Int) := of_decide_eq_true (by first | (with_reducible assumption) | assumption); have hx13 := bt_at a0 t120; replace p13 := eq_true p13; replace q13 := eq_true q13))
        (try simp only [Act.put, List.setIfInBounds_toArray, List.set_cons_zero, List.set_cons_succ])
        go_cut [8, 9] (fun v8 v9 wc => ∃ (kq : Nat) (x8_13 : Int) (x9_13 : Int) (x122000_13 : Int) (x122001_13 : ByteArray) (x122002_13 : Int) (x122003_13 : Int), v8 = .int .i64 x8_13 ∧ v9 = .int .i64 x9_13 ∧ Aside0 (lexer_next.j2 kq t120 x8_13 x9_13 x122000_13 x122001_13 x122002_13 x122003_13 = some (r1, r2, r3, r4, r5, r6, r7)) ∧ Aside0 (kq ≤ k) ∧ Aside0 (wc.heap[gb118]? = some (.cells #[.int .i64 0, .string (⟨#[]⟩ : ByteArray), .int .i64 0, .int .i64 0] 46 (0, 0))) ∧ Aside0 (wc.heap[gb119]? = some (.cells #[.int .i64 0, .int .i64 0] 26 (0, 0))) ∧ Aside0 (wc.heap[gb121]? = some (.cells #[.int .i64 x122000_13, .string x122001_13, .int .i64 x122002_13, .int .i64 x122003_13] 46 (0, 0))) ∧ Aside0 (Below w.heap.size w wc))
        case first =>
          have H := HC14.out
          clear HC14
          replace H := Option.bind_eq_some_iff.mp H
          obtain ⟨t122, A190, H⟩ := H
          replace H : (if t122 = true then (lexer_next.l0 k a0 t120 (wrap64 (t120 + 1))) else (if (bt a0 t120) = 34 then ((lexer_text.f k a0 t120).bind fun bt129 => (lexer_next.j2 k t120 bt129.2.2.2.2.1 bt129.2.2.2.2.2 bt129.1 bt129.2.1 bt129.2.2.1 bt129.2.2.2.1)) else ((lexer_kinds.f).bind fun t135 => (if 0 ≤ (bt a0 t120) then (if (bt a0 t120) < 256 then (if (lexer_kinds.at_ (bt a0 t120)) = 5 then (if t120 ≤ (wrap64 (t120 + 1)) then (if (wrap64 (t120 + 1)) ≤ (a0.size : Int) then (lexer_next.j2 k t120 (wrap64 (t120 + 1)) 0 4 (a0.extract (t120 : Int).toNat ((wrap64 (t120 + 1)) : Int).toNat) 0 0) else (none)) else (none)) else (lexer_next.j2 k t120 (wrap64 (t120 + 1)) 2 0 (⟨#[]⟩ : ByteArray) 0 0)) else (none)) else (none))))) = some (r1, r2, r3, r4, r5, r6, r7) := H
          have A19 := Aside0.mk A190
          clear A190
          by_cases c20 : t122 = true
          · subst c20
            have H1 : (lexer_next.l0 k a0 t120 (wrap64 (t120 + 1))) = some (r1, r2, r3, r4, r5, r6, r7) := by rw [if_pos rfl] at H; exact H
            clear H
            have H := H1
            clear H1
            have HC21 := Aside0.mk H
            clear H
            go_upto_block 1 with (first | ((with_reducible refine gate_callee (f := 82) rfl ?_); refine goesL_ (some 29) rfl rfl Tryd.func82 (by kernel_rfl) rfl #[.int .u8 (bt a0 t120)] rfl (by (try simp only [List.map_toArray, List.map_cons, List.map_nil]); first | done | rfl | (simp only [List.length_drop, List.length_take]; rfl)) ?_; (with_reducible refine (lexer_isRun.calls (bt a0 t120) true _ A19.out).mono ?_); rintro e w22 ⟨rfl, hb⟩; refine ⟨_, rfl, ?_⟩; have n0_ := Aside0.mk (blk_below (g := gb118) (o := .cells #[.int .i64 0, .string (⟨#[]⟩ : ByteArray), .int .i64 0, .int .i64 0] 46 (0, 0)) (bk_ BK118.out) hb); have n1_ := Aside0.mk (blk_below (g := gb119) (o := .cells #[.int .i64 0, .int .i64 0] 26 (0, 0)) (bk_ BK119.out) hb); have n2_ := Aside0.mk (blk_below (g := gb121) (o := .cells #[.int .i64 0, .string (⟨#[]⟩ : ByteArray), .int .i64 0, .int .i64 0] 46 (0, 0)) (bk_ BK121.out) hb); have n3_ := Aside0.mk (below_step (bl3_ HB.out GE118.out GE119.out GE121.out) hb); clear BK118; clear BK119; clear BK121; clear HB; have BK118 := n0_; have BK119 := n1_; have BK121 := n2_; have HB := n3_; clear n0_ n1_ n2_ n3_; (try clear hb); (try clear hb2); (try clear hk); (try clear hi)))
            (try simp only [Act.put, List.setIfInBounds_toArray, List.set_cons_zero, List.set_cons_succ])
            go_cut [8] (fun v8 wc => ∃ (kq : Nat) (x8_20 : Int), v8 = .int .i64 x8_20 ∧ Aside0 (lexer_next.j1 kq a0 t120 x8_20 = some (r1, r2, r3, r4, r5, r6, r7)) ∧ Aside0 (kq ≤ k) ∧ Aside0 (wc.heap[gb118]? = some (.cells #[.int .i64 0, .string (⟨#[]⟩ : ByteArray), .int .i64 0, .int .i64 0] 46 (0, 0))) ∧ Aside0 (wc.heap[gb119]? = some (.cells #[.int .i64 0, .int .i64 0] 26 (0, 0))) ∧ Aside0 (wc.heap[gb121]? = some (.cells #[.int .i64 0, .string (⟨#[]⟩ : ByteArray), .int .i64 0, .int .i64 0] 46 (0, 0))) ∧ Aside0 (Below w.heap.size w wc))
            case first =>
              have H := HC21.out
              clear HC21
              have H' := Aside0.mk H
              clear H
              go_wp2
              go_loopg [8] k (fun kq v8 w' => ∃ (x8_1 : Int), v8 = .int .i64 x8_1 ∧ Aside0 (lexer_next.l0 kq a0 t120 x8_1 = some (r1, r2, r3, r4, r5, r6, r7)) ∧ Aside0 (kq ≤ k) ∧ Aside0 (w'.heap[gb118]? = some (.cells #[.int .i64 0, .string (⟨#[]⟩ : ByteArray), .int .i64 0, .int .i64 0] 46 (0, 0))) ∧ Aside0 (w'.heap[gb119]? = some (.cells #[.int .i64 0, .int .i64 0] 26 (0, 0))) ∧ Aside0 (w'.heap[gb121]? = some (.cells #[.int .i64 0, .string (⟨#[]⟩ : ByteArray), .int .i64 0, .int .i64 0] 46 (0, 0))) ∧ Aside0 (Below w.heap.size w w'))
              case atStart => exact ⟨(wrap64 (t120 + 1)), (by first | rfl | (simp; done) | (simp [*]; done) | (simp <;> rfl)), H', ⟨Nat.le_refl _⟩, ⟨by (with_reducible repeat (first | refine blk_drewN ?_ _ | refine blk_drew ?_ | refine blk_alloc ?_ _)); exact BK118.out⟩, ⟨by (with_reducible repeat (first | refine blk_drewN ?_ _ | refine blk_drew ?_ | refine blk_alloc ?_ _)); exact BK119.out⟩, ⟨by (with_reducible repeat (first | refine blk_drewN ?_ _ | refine blk_drew ?_ | refine blk_alloc ?_ _)); exact BK121.out⟩, ⟨bl3_ HB.out GE118.out GE119.out GE121.out⟩⟩
              case round =>
                clear H'
                try clear c1
                try clear p1
                try clear q1
                try clear hx1
                try clear c2
                try clear p2
                try clear c4
                try clear c4b0
                try clear c4b1
                try clear c5
                try clear p6
                try clear c8
                try clear c11
                try clear c11b0
                try clear c12
                try clear c12b0
                try clear p13
                try clear q13
                try clear hx13
                try clear c20
                try clear hcz10_0
                try clear hcz10_1
                try clear hcz9_0
                try clear hcz9_1
                try clear hcz9_2
                try clear hcz9_3
                try clear hfz10_0
                try clear hfz10_1
                try clear hfz9_0
                try clear hfz9_1
                try clear hfz9_2
                try clear hfz9_3
                try clear p13
                try clear q13
                obtain ⟨x8_1, rfl, HA, HK1, BK118, BK119, BK121, HB⟩ := hrel
                cases gk with
                | zero => exact absurd HA.out (by simp [lexer_next.l0])
                | succ k1 =>
                  have H := HA.out
                  clear HA
                  simp only [lexer_next.l0] at H
                  by_cases c23 : x8_1 < (a0.size : Int)
                  · rw [if_pos c23] at H
                    have c23b0 : decide (x8_1 < (a0.size : Int)) = true := decide_eq_true c23
                    clear c23
                    (first | rw [c23b0] | (simp only [i64_w, i32_w]; rw [c23b0]) | skip)
                    by_cases c24 : 0 ≤ x8_1
                    · rw [if_pos c24] at H
                      have c24b0 : decide (0 ≤ x8_1) = true := decide_eq_true c24
                      clear c24
                      replace H := Option.bind_eq_some_iff.mp H
                      obtain ⟨t123, A260, H⟩ := H
                      replace H : (if t123 = true then (lexer_next.l0 k1 a0 t120 (wrap64 (x8_1 + 1))) else (lexer_next.j1 k1 a0 t120 x8_1)) = some (r1, r2, r3, r4, r5, r6, r7) := H
                      have A26 := Aside0.mk A260
                      clear A260
                      by_cases c27 : t123 = true
                      · subst c27
                        have H1 : (lexer_next.l0 k1 a0 t120 (wrap64 (x8_1 + 1))) = some (r1, r2, r3, r4, r5, r6, r7) := by rw [if_pos rfl] at H; exact H
                        clear H
                        have H := H1
                        clear H1
                        have H' := Aside0.mk H
                        clear H
                        have p25 : 0 ≤ (x8_1 : Int) := of_decide_eq_true (by first | (with_reducible assumption) | assumption)
                        have q25 : x8_1 < (a0.size : Int) := of_decide_eq_true (by first | (with_reducible assumption) | assumption)
                        have hx25 := bt_at a0 x8_1
                        replace p25 := eq_true p25
                        replace q25 := eq_true q25
                        go_wp2_with (first | (go_at_call 82; (with_reducible refine (lexer_isRun.calls (bt a0 x8_1) true _ A26.out).mono ?_); rintro e w28 ⟨rfl, hb⟩; have n0_ := Aside0.mk (blk_below (g := gb118) (o := .cells #[.int .i64 0, .string (⟨#[]⟩ : ByteArray), .int .i64 0, .int .i64 0] 46 (0, 0)) (bk_ BK118.out) hb); have n1_ := Aside0.mk (blk_below (g := gb119) (o := .cells #[.int .i64 0, .int .i64 0] 26 (0, 0)) (bk_ BK119.out) hb); have n2_ := Aside0.mk (blk_below (g := gb121) (o := .cells #[.int .i64 0, .string (⟨#[]⟩ : ByteArray), .int .i64 0, .int .i64 0] 46 (0, 0)) (bk_ BK121.out) hb); have n3_ := Aside0.mk (below_step (bl3_ HB.out GE118.out GE119.out GE121.out) hb); clear BK118; clear BK119; clear BK121; clear HB; have BK118 := n0_; have BK119 := n1_; have BK121 := n2_; have HB := n3_; clear n0_ n1_ n2_ n3_; (try clear hb); (try clear hb2); (try clear hk); (try clear hi)))
                        go_roundg k1
                        case measure => have := HK1.out; omega
                        case rel => exact ⟨(wrap64 (x8_1 + 1)), (by first | rfl | (simp; done) | (simp [*]; done) | (simp <;> rfl)), H', ⟨by have := HK1.out; omega⟩, ⟨by (with_reducible repeat (first | refine blk_drewN ?_ _ | refine blk_drew ?_ | refine blk_alloc ?_ _)); exact BK118.out⟩, ⟨by (with_reducible repeat (first | refine blk_drewN ?_ _ | refine blk_drew ?_ | refine blk_alloc ?_ _)); exact BK119.out⟩, ⟨by (with_reducible repeat (first | refine blk_drewN ?_ _ | refine blk_drew ?_ | refine blk_alloc ?_ _)); exact BK121.out⟩, ⟨bl3_ HB.out GE118.out GE119.out GE121.out⟩⟩
                      · replace c27 := Bool.eq_false_iff.mpr c27
                        subst c27
                        have H1 : (lexer_next.j1 k1 a0 t120 x8_1) = some (r1, r2, r3, r4, r5, r6, r7) := by rw [if_neg (show ¬ (false = true) by decide)] at H; exact H
                        clear H
                        have H := H1
                        clear H1
                        have H' := Aside0.mk H
                        clear H
                        have p25 : 0 ≤ (x8_1 : Int) := of_decide_eq_true (by first | (with_reducible assumption) | assumption)
                        have q25 : x8_1 < (a0.size : Int) := of_decide_eq_true (by first | (with_reducible assumption) | assumption)
                        have hx25 := bt_at a0 x8_1
                        replace p25 := eq_true p25
                        replace q25 := eq_true q25
                        go_wp2_with (first | (go_at_call 82; (with_reducible refine (lexer_isRun.calls (bt a0 x8_1) false _ A26.out).mono ?_); rintro e w29 ⟨rfl, hb⟩; have n0_ := Aside0.mk (blk_below (g := gb118) (o := .cells #[.int .i64 0, .string (⟨#[]⟩ : ByteArray), .int .i64 0, .int .i64 0] 46 (0, 0)) (bk_ BK118.out) hb); have n1_ := Aside0.mk (blk_below (g := gb119) (o := .cells #[.int .i64 0, .int .i64 0] 26 (0, 0)) (bk_ BK119.out) hb); have n2_ := Aside0.mk (blk_below (g := gb121) (o := .cells #[.int .i64 0, .string (⟨#[]⟩ : ByteArray), .int .i64 0, .int .i64 0] 46 (0, 0)) (bk_ BK121.out) hb); have n3_ := Aside0.mk (below_step (bl3_ HB.out GE118.out GE119.out GE121.out) hb); clear BK118; clear BK119; clear BK121; clear HB; have BK118 := n0_; have BK119 := n1_; have BK121 := n2_; have HB := n3_; clear n0_ n1_ n2_ n3_; (try clear hb); (try clear hb2); (try clear hk); (try clear hi)))
                        go_meet
                        case rel => exact ⟨_, (x8_1), (by first | rfl | (simp; done) | (simp [*]; done) | (simp <;> rfl)), H', ⟨by have := HK1.out; first | omega | exact Nat.le_refl _⟩, ⟨by (with_reducible repeat (first | refine blk_drewN ?_ _ | refine blk_drew ?_ | refine blk_alloc ?_ _)); exact BK118.out⟩, ⟨by (with_reducible repeat (first | refine blk_drewN ?_ _ | refine blk_drew ?_ | refine blk_alloc ?_ _)); exact BK119.out⟩, ⟨by (with_reducible repeat (first | refine blk_drewN ?_ _ | refine blk_drew ?_ | refine blk_alloc ?_ _)); exact BK121.out⟩, ⟨bl3_ HB.out GE118.out GE119.out GE121.out⟩⟩
                    · rw [if_neg c24] at H
                      exact absurd H (by simp)
                  · rw [if_neg c23] at H
                    have c23b0 : decide (x8_1 < (a0.size : Int)) = false := decide_eq_false c23
                    clear c23
                    (first | rw [c23b0] | (simp only [i64_w, i32_w]; rw [c23b0]) | skip)
                    have H' := Aside0.mk H
                    clear H
                    go_wp2
                    go_meet
                    case rel => exact ⟨_, (x8_1), (by first | rfl | (simp; done) | (simp [*]; done) | (simp <;> rfl)), H', ⟨by have := HK1.out; first | omega | exact Nat.le_refl _⟩, ⟨by (with_reducible repeat (first | refine blk_drewN ?_ _ | refine blk_drew ?_ | refine blk_alloc ?_ _)); exact BK118.out⟩, ⟨by (with_reducible repeat (first | refine blk_drewN ?_ _ | refine blk_drew ?_ | refine blk_alloc ?_ _)); exact BK119.out⟩, ⟨by (with_reducible repeat (first | refine blk_drewN ?_ _ | refine blk_drew ?_ | refine blk_alloc ?_ _)); exact BK121.out⟩, ⟨bl3_ HB.out GE118.out GE119.out GE121.out⟩⟩
            case rest =>
              clear HC21
              try clear c1
              try clear p1
              try clear q1
              try clear hx1
              try clear c2
              try clear p2
              try clear q2
              try clear hx2
              try clear c4
              try clear c4b0
              try clear c4b1
              try clear c5
              try clear p6
              try clear c8
              try clear c11
              try clear c11b0
              try clear c12
              try clear c12b0
              try clear p13
              try clear q13
              try clear hx13
              try clear c20
              try clear c23
              try clear c23b0
              try clear c24
              try clear c24b0
              try clear p25
              try clear q25
              try clear hx25
              try clear c27
              try clear hcz10_0
              try clear hcz10_1
              try clear hcz9_0
              try clear hcz9_1
              try clear hcz9_2
              try clear hcz9_3
              try clear hfz10_0
              try clear hfz10_1
              try clear hfz9_0
              try clear hfz9_1
              try clear hfz9_2
              try clear hfz9_3
              try clear p1
              try clear p13
              try clear p2
              try clear p25
              try clear p6
              try clear q1
              try clear q13
              try clear q25
              obtain ⟨kq, x8_20, rfl, HA, HJ20, BK118, BK119, BK121, HB⟩ := hcut
              cases kq with
              | zero => exact absurd HA.out (by simp [lexer_next.j1])
              | succ kj20 =>
                have H := HA.out
                clear HA
                simp only [lexer_next.j1] at H
                by_cases c30 : 0 ≤ t120
                · rw [if_pos c30] at H
                  have c30b0 := eq_true c30
                  have c30b1 : decide (0 ≤ t120) = true := decide_eq_true c30
                  clear c30
                  by_cases c31 : t120 ≤ x8_20
                  · rw [if_pos c31] at H
                    have c31b0 := eq_true c31
                    have c31b1 : decide (t120 ≤ x8_20) = true := decide_eq_true c31
                    clear c31
                    by_cases c32 : x8_20 ≤ (a0.size : Int)
                    · rw [if_pos c32] at H
                      have c32b0 := eq_true c32
                      have c32b1 : decide (x8_20 ≤ (a0.size : Int)) = true := decide_eq_true c32
                      clear c32
                      replace H := Option.bind_eq_some_iff.mp H
                      obtain ⟨⟨t124, t125, t126, t127, t128⟩, A330, H⟩ := H
                      replace H : (lexer_next.j2 kj20 t120 x8_20 t128 t124 t125 t126 t127) = some (r1, r2, r3, r4, r5, r6, r7) := H
                      have A33 := Aside0.mk A330
                      clear A330
                      have H' := Aside0.mk H
                      clear H
                      go_wp2_with (first | ((with_reducible refine gate_callee (f := 83) rfl ?_); refine goesL_ (some 47) rfl rfl Tryd.func83 (by kernel_rfl) rfl #[.string (a0.extract (t120 : Int).toNat (x8_20 : Int).toNat)] rfl (by (try simp only [List.map_toArray, List.map_cons, List.map_nil]); first | done | rfl | (simp only [List.length_drop, List.length_take]; rfl)) ?_; (with_reducible refine (lexer_run.calls kj20 (a0.extract (t120 : Int).toNat (x8_20 : Int).toNat) t124 t125 t126 t127 t128 _ A33.out).mono ?_); rintro e w34 ⟨rfl, hb⟩; refine ⟨_, rfl, ?_⟩; have n0_ := Aside0.mk (blk_below (g := gb118) (o := .cells #[.int .i64 0, .string (⟨#[]⟩ : ByteArray), .int .i64 0, .int .i64 0] 46 (0, 0)) (bk_ BK118.out) hb); have n1_ := Aside0.mk (blk_below (g := gb119) (o := .cells #[.int .i64 0, .int .i64 0] 26 (0, 0)) (bk_ BK119.out) hb); have n2_ := Aside0.mk (blk_below (g := gb121) (o := .cells #[.int .i64 0, .string (⟨#[]⟩ : ByteArray), .int .i64 0, .int .i64 0] 46 (0, 0)) (bk_ BK121.out) hb); have n3_ := Aside0.mk (below_step (bl3_ HB.out GE118.out GE119.out GE121.out) hb); clear BK118; clear BK119; clear BK121; clear HB; have BK118 := n0_; have BK119 := n1_; have BK121 := n2_; have HB := n3_; clear n0_ n1_ n2_ n3_; (try clear hb); (try clear hb2); (try clear hk); (try clear hi); have hnb35 := NB121_118.out; have hnc35 := NB118_121.out; have hnb36 := NB121_119.out; have hnc36 := NB119_121.out; have hcz37_0 : w34.cell? ⟨gb121, 0, none⟩ = some (.int .i64 0) := (blk_cell BK121.out 0).trans rfl; have hcz37_1 : w34.cell? ⟨gb121, 1, none⟩ = some (.string (⟨#[]⟩ : ByteArray)) := (blk_cell BK121.out 1).trans rfl; have hcz37_2 : w34.cell? ⟨gb121, 2, none⟩ = some (.int .i64 0) := (blk_cell BK121.out 2).trans rfl; have hcz37_3 : w34.cell? ⟨gb121, 3, none⟩ = some (.int .i64 0) := (blk_cell BK121.out 3).trans rfl; have hfz37_0 := blk_frozen BK121.out 0; have hfz37_1 := blk_frozen BK121.out 1; have hfz37_2 := blk_frozen BK121.out 2; have hfz37_3 := blk_frozen BK121.out 3))
                      go_meet
                      case rel => exact ⟨_, (x8_20), (t128), (t124), (t125), (t126), (t127), (by first | rfl | (simp; done) | (simp [*]; done) | (simp <;> rfl)), (by first | rfl | (simp; done) | (simp [*]; done) | (simp <;> rfl)), H', ⟨by have := HJ20.out; first | omega | exact Nat.le_refl _⟩, ⟨by (with_reducible repeat (first | refine blk_drewN ?_ _ | refine blk_drew ?_ | refine blk_alloc ?_ _)); refine blk_far ?_ NB118_121.out _; (with_reducible repeat (first | refine blk_drewN ?_ _ | refine blk_drew ?_ | refine blk_alloc ?_ _)); refine blk_far ?_ NB118_121.out _; (with_reducible repeat (first | refine blk_drewN ?_ _ | refine blk_drew ?_ | refine blk_alloc ?_ _)); refine blk_far ?_ NB118_121.out _; (with_reducible repeat (first | refine blk_drewN ?_ _ | refine blk_drew ?_ | refine blk_alloc ?_ _)); refine blk_far ?_ NB118_121.out _; (with_reducible repeat (first | refine blk_drewN ?_ _ | refine blk_drew ?_ | refine blk_alloc ?_ _)); exact BK118.out⟩, ⟨by (with_reducible repeat (first | refine blk_drewN ?_ _ | refine blk_drew ?_ | refine blk_alloc ?_ _)); refine blk_far ?_ NB119_121.out _; (with_reducible repeat (first | refine blk_drewN ?_ _ | refine blk_drew ?_ | refine blk_alloc ?_ _)); refine blk_far ?_ NB119_121.out _; (with_reducible repeat (first | refine blk_drewN ?_ _ | refine blk_drew ?_ | refine blk_alloc ?_ _)); refine blk_far ?_ NB119_121.out _; (with_reducible repeat (first | refine blk_drewN ?_ _ | refine blk_drew ?_ | refine blk_alloc ?_ _)); refine blk_far ?_ NB119_121.out _; (with_reducible repeat (first | refine blk_drewN ?_ _ | refine blk_drew ?_ | refine blk_alloc ?_ _)); exact BK119.out⟩, ⟨by (with_reducible repeat (first | refine blk_drewN ?_ _ | refine blk_drew ?_ | refine blk_alloc ?_ _)); refine blk_put (cs := #[.int .i64 t124, .string t125, .int .i64 t126, .int .i64 0]) ?_ 3 _ rfl; (with_reducible repeat (first | refine blk_drewN ?_ _ | refine blk_drew ?_ | refine blk_alloc ?_ _)); refine blk_put (cs := #[.int .i64 t124, .string t125, .int .i64 0, .int .i64 0]) ?_ 2 _ rfl; (with_reducible repeat (first | refine blk_drewN ?_ _ | refine blk_drew ?_ | refine blk_alloc ?_ _)); refine blk_put (cs := #[.int .i64 t124, .string (⟨#[]⟩ : ByteArray), .int .i64 0, .int .i64 0]) ?_ 1 _ rfl; (with_reducible repeat (first | refine blk_drewN ?_ _ | refine blk_drew ?_ | refine blk_alloc ?_ _)); refine blk_put (cs := #[.int .i64 0, .string (⟨#[]⟩ : ByteArray), .int .i64 0, .int .i64 0]) ?_ 0 _ rfl; (with_reducible repeat (first | refine blk_drewN ?_ _ | refine blk_drew ?_ | refine blk_alloc ?_ _)); exact BK121.out⟩, ⟨bl3_ HB.out GE118.out GE119.out GE121.out⟩⟩
                    · rw [if_neg c32] at H
                      exact absurd H (by simp)
                  · rw [if_neg c31] at H
                    exact absurd H (by simp)
                · rw [if_neg c30] at H
                  exact absurd H (by simp)
          · replace c20 := Bool.eq_false_iff.mpr c20
            subst c20
            have H1 : (if (bt a0 t120) = 34 then ((lexer_text.f k a0 t120).bind fun bt129 => (lexer_next.j2 k t120 bt129.2.2.2.2.1 bt129.2.2.2.2.2 bt129.1 bt129.2.1 bt129.2.2.1 bt129.2.2.2.1)) else ((lexer_kinds.f).bind fun t135 => (if 0 ≤ (bt a0 t120) then (if (bt a0 t120) < 256 then (if (lexer_kinds.at_ (bt a0 t120)) = 5 then (if t120 ≤ (wrap64 (t120 + 1)) then (if (wrap64 (t120 + 1)) ≤ (a0.size : Int) then (lexer_next.j2 k t120 (wrap64 (t120 + 1)) 0 4 (a0.extract (t120 : Int).toNat ((wrap64 (t120 + 1)) : Int).toNat) 0 0) else (none)) else (none)) else (lexer_next.j2 k t120 (wrap64 (t120 + 1)) 2 0 (⟨#[]⟩ : ByteArray) 0 0)) else (none)) else (none)))) = some (r1, r2, r3, r4, r5, r6, r7) := by rw [if_neg (show ¬ (false = true) by decide)] at H; exact H
            clear H
            have H := H1
            clear H1
            by_cases c38 : (bt a0 t120) = 34
            · rw [if_pos c38] at H
              have c38b0 : ((bt a0 t120) == 34) = true := beq_iff_eq.mpr c38
              have c38b1 : ((bt a0 t120) != 34) = false := bne_eq_false_iff_eq.mpr c38
              clear c38
              replace H := Option.bind_eq_some_iff.mp H
              obtain ⟨⟨t129, t130, t131, t132, t133, t134⟩, A390, H⟩ := H
              replace H : (lexer_next.j2 k t120 t133 t134 t129 t130 t131 t132) = some (r1, r2, r3, r4, r5, r6, r7) := H
              have A39 := Aside0.mk A390
              clear A390
              have H' := Aside0.mk H
              clear H
              go_wp2_with (first | ((with_reducible refine gate_callee (f := 82) rfl ?_); refine goesL_ (some 29) rfl rfl Tryd.func82 (by kernel_rfl) rfl #[.int .u8 (bt a0 t120)] rfl (by (try simp only [List.map_toArray, List.map_cons, List.map_nil]); first | done | rfl | (simp only [List.length_drop, List.length_take]; rfl)) ?_; (with_reducible refine (lexer_isRun.calls (bt a0 t120) false _ A19.out).mono ?_); rintro e w40 ⟨rfl, hb⟩; refine ⟨_, rfl, ?_⟩; have n0_ := Aside0.mk (blk_below (g := gb118) (o := .cells #[.int .i64 0, .string (⟨#[]⟩ : ByteArray), .int .i64 0, .int .i64 0] 46 (0, 0)) (bk_ BK118.out) hb); have n1_ := Aside0.mk (blk_below (g := gb119) (o := .cells #[.int .i64 0, .int .i64 0] 26 (0, 0)) (bk_ BK119.out) hb); have n2_ := Aside0.mk (blk_below (g := gb121) (o := .cells #[.int .i64 0, .string (⟨#[]⟩ : ByteArray), .int .i64 0, .int .i64 0] 46 (0, 0)) (bk_ BK121.out) hb); have n3_ := Aside0.mk (below_step (bl3_ HB.out GE118.out GE119.out GE121.out) hb); clear BK118; clear BK119; clear BK121; clear HB; have BK118 := n0_; have BK119 := n1_; have BK121 := n2_; have HB := n3_; clear n0_ n1_ n2_ n3_; (try clear hb); (try clear hb2); (try clear hk); (try clear hi)) | ((with_reducible refine gate_callee (f := 84) rfl ?_); refine goesL_ (some 56) rfl rfl Tryd.func84 (by kernel_rfl) rfl #[.string a0, .int .i64 t120] rfl (by (try simp only [List.map_toArray, List.map_cons, List.map_nil]); first | done | rfl | (simp only [List.length_drop, List.length_take]; rfl)) ?_; (with_reducible refine (lexer_text.calls k a0 t120 t129 t130 t131 t132 t133 t134 _ A39.out).mono ?_); rintro e w41 ⟨rfl, hb⟩; refine ⟨_, rfl, ?_⟩; have n0_ := Aside0.mk (blk_below (g := gb118) (o := .cells #[.int .i64 0, .string (⟨#[]⟩ : ByteArray), .int .i64 0, .int .i64 0] 46 (0, 0)) (bk_ BK118.out) hb); have n1_ := Aside0.mk (blk_below (g := gb119) (o := .cells #[.int .i64 0, .int .i64 0] 26 (0, 0)) (bk_ BK119.out) hb); have n2_ := Aside0.mk (blk_below (g := gb121) (o := .cells #[.int .i64 0, .string (⟨#[]⟩ : ByteArray), .int .i64 0, .int .i64 0] 46 (0, 0)) (bk_ BK121.out) hb); have n3_ := Aside0.mk (below_step (bl3_ HB.out GE118.out GE119.out GE121.out) hb); clear BK118; clear BK119; clear BK121; clear HB; have BK118 := n0_; have BK119 := n1_; have BK121 := n2_; have HB := n3_; clear n0_ n1_ n2_ n3_; (try clear hb); (try clear hb2); (try clear hk); (try clear hi); have hnb42 := NB121_118.out; have hnc42 := NB118_121.out; have hnb43 := NB121_119.out; have hnc43 := NB119_121.out; have hcz44_0 : w41.cell? ⟨gb121, 0, none⟩ = some (.int .i64 0) := (blk_cell BK121.out 0).trans rfl; have hcz44_1 : w41.cell? ⟨gb121, 1, none⟩ = some (.string (⟨#[]⟩ : ByteArray)) := (blk_cell BK121.out 1).trans rfl; have hcz44_2 : w41.cell? ⟨gb121, 2, none⟩ = some (.int .i64 0) := (blk_cell BK121.out 2).trans rfl; have hcz44_3 : w41.cell? ⟨gb121, 3, none⟩ = some (.int .i64 0) := (blk_cell BK121.out 3).trans rfl; have hfz44_0 := blk_frozen BK121.out 0; have hfz44_1 := blk_frozen BK121.out 1; have hfz44_2 := blk_frozen BK121.out 2; have hfz44_3 := blk_frozen BK121.out 3))
              go_meet
              case rel => exact ⟨_, (t133), (t134), (t129), (t130), (t131), (t132), (by first | rfl | (simp; done) | (simp [*]; done) | (simp <;> rfl)), (by first | rfl | (simp; done) | (simp [*]; done) | (simp <;> rfl)), H', ⟨by first | omega | exact Nat.le_refl _⟩, ⟨by (with_reducible repeat (first | refine blk_drewN ?_ _ | refine blk_drew ?_ | refine blk_alloc ?_ _)); refine blk_far ?_ NB118_121.out _; (with_reducible repeat (first | refine blk_drewN ?_ _ | refine blk_drew ?_ | refine blk_alloc ?_ _)); refine blk_far ?_ NB118_121.out _; (with_reducible repeat (first | refine blk_drewN ?_ _ | refine blk_drew ?_ | refine blk_alloc ?_ _)); refine blk_far ?_ NB118_121.out _; (with_reducible repeat (first | refine blk_drewN ?_ _ | refine blk_drew ?_ | refine blk_alloc ?_ _)); refine blk_far ?_ NB118_121.out _; (with_reducible repeat (first | refine blk_drewN ?_ _ | refine blk_drew ?_ | refine blk_alloc ?_ _)); exact BK118.out⟩, ⟨by (with_reducible repeat (first | refine blk_drewN ?_ _ | refine blk_drew ?_ | refine blk_alloc ?_ _)); refine blk_far ?_ NB119_121.out _; (with_reducible repeat (first | refine blk_drewN ?_ _ | refine blk_drew ?_ | refine blk_alloc ?_ _)); refine blk_far ?_ NB119_121.out _; (with_reducible repeat (first | refine blk_drewN ?_ _ | refine blk_drew ?_ | refine blk_alloc ?_ _)); refine blk_far ?_ NB119_121.out _; (with_reducible repeat (first | refine blk_drewN ?_ _ | refine blk_drew ?_ | refine blk_alloc ?_ _)); refine blk_far ?_ NB119_121.out _; (with_reducible repeat (first | refine blk_drewN ?_ _ | refine blk_drew ?_ | refine blk_alloc ?_ _)); exact BK119.out⟩, ⟨by (with_reducible repeat (first | refine blk_drewN ?_ _ | refine blk_drew ?_ | refine blk_alloc ?_ _)); refine blk_put (cs := #[.int .i64 t129, .string t130, .int .i64 t131, .int .i64 0]) ?_ 3 _ rfl; (with_reducible repeat (first | refine blk_drewN ?_ _ | refine blk_drew ?_ | refine blk_alloc ?_ _)); refine blk_put (cs := #[.int .i64 t129, .string t130, .int .i64 0, .int .i64 0]) ?_ 2 _ rfl; (with_reducible repeat (first | refine blk_drewN ?_ _ | refine blk_drew ?_ | refine blk_alloc ?_ _)); refine blk_put (cs := #[.int .i64 t129, .string (⟨#[]⟩ : ByteArray), .int .i64 0, .int .i64 0]) ?_ 1 _ rfl; (with_reducible repeat (first | refine blk_drewN ?_ _ | refine blk_drew ?_ | refine blk_alloc ?_ _)); refine blk_put (cs := #[.int .i64 0, .string (⟨#[]⟩ : ByteArray), .int .i64 0, .int .i64 0]) ?_ 0 _ rfl; (with_reducible repeat (first | refine blk_drewN ?_ _ | refine blk_drew ?_ | refine blk_alloc ?_ _)); exact BK121.out⟩, ⟨bl3_ HB.out GE118.out GE119.out GE121.out⟩⟩
            · rw [if_neg c38] at H
              have c38b0 : ((bt a0 t120) == 34) = false := beq_eq_false_iff_ne.mpr c38
              have c38b1 : ((bt a0 t120) != 34) = true := bne_iff_ne.mpr c38
              replace H := Option.bind_eq_some_iff.mp H
              obtain ⟨t135, A450, H⟩ := H
              replace H : (if 0 ≤ (bt a0 t120) then (if (bt a0 t120) < 256 then (if (lexer_kinds.at_ (bt a0 t120)) = 5 then (if t120 ≤ (wrap64 (t120 + 1)) then (if (wrap64 (t120 + 1)) ≤ (a0.size : Int) then (lexer_next.j2 k t120 (wrap64 (t120 + 1)) 0 4 (a0.extract (t120 : Int).toNat ((wrap64 (t120 + 1)) : Int).toNat) 0 0) else (none)) else (none)) else (lexer_next.j2 k t120 (wrap64 (t120 + 1)) 2 0 (⟨#[]⟩ : ByteArray) 0 0)) else (none)) else (none)) = some (r1, r2, r3, r4, r5, r6, r7) := H
              have A45 := Aside0.mk A450
              clear A450
              by_cases c46 : 0 ≤ (bt a0 t120)
              · rw [if_pos c46] at H
                have c46b0 : decide (0 ≤ (bt a0 t120)) = true := decide_eq_true c46
                clear c46
                by_cases c47 : (bt a0 t120) < 256
                · rw [if_pos c47] at H
                  have c47b0 : decide ((bt a0 t120) < 256) = true := decide_eq_true c47
                  clear c47
                  by_cases c49 : (lexer_kinds.at_ (bt a0 t120)) = 5
                  · rw [if_pos c49] at H
                    have c49b0 : ((lexer_kinds.at_ (bt a0 t120)) == 5) = true := beq_iff_eq.mpr c49
                    have c49b1 : ((lexer_kinds.at_ (bt a0 t120)) != 5) = false := bne_eq_false_iff_eq.mpr c49
                    clear c49
                    have c50b0 := eq_true (of_decide_eq_true (by first | (with_reducible assumption) | assumption) : 0 ≤ t120)
                    by_cases c51 : t120 ≤ (wrap64 (t120 + 1))
                    · rw [if_pos c51] at H
                      have c51b0 := eq_true c51
                      have c51b1 : decide (t120 ≤ (wrap64 (t120 + 1))) = true := decide_eq_true c51
                      by_cases c52 : (wrap64 (t120 + 1)) ≤ (a0.size : Int)
                      · rw [if_pos c52] at H
                        have c52b0 := eq_true c52
                        have c52b1 : decide ((wrap64 (t120 + 1)) ≤ (a0.size : Int)) = true := decide_eq_true c52
                        have H' := Aside0.mk H
                        clear H
                        go_wp2_with (first | ((with_reducible refine gate_callee (f := 82) rfl ?_); refine goesL_ (some 29) rfl rfl Tryd.func82 (by kernel_rfl) rfl #[.int .u8 (bt a0 t120)] rfl (by (try simp only [List.map_toArray, List.map_cons, List.map_nil]); first | done | rfl | (simp only [List.length_drop, List.length_take]; rfl)) ?_; (with_reducible refine (lexer_isRun.calls (bt a0 t120) false _ A19.out).mono ?_); rintro e w53 ⟨rfl, hb⟩; refine ⟨_, rfl, ?_⟩; have n0_ := Aside0.mk (blk_below (g := gb118) (o := .cells #[.int .i64 0, .string (⟨#[]⟩ : ByteArray), .int .i64 0, .int .i64 0] 46 (0, 0)) (bk_ BK118.out) hb); have n1_ := Aside0.mk (blk_below (g := gb119) (o := .cells #[.int .i64 0, .int .i64 0] 26 (0, 0)) (bk_ BK119.out) hb); have n2_ := Aside0.mk (blk_below (g := gb121) (o := .cells #[.int .i64 0, .string (⟨#[]⟩ : ByteArray), .int .i64 0, .int .i64 0] 46 (0, 0)) (bk_ BK121.out) hb); have n3_ := Aside0.mk (below_step (bl3_ HB.out GE118.out GE119.out GE121.out) hb); clear BK118; clear BK119; clear BK121; clear HB; have BK118 := n0_; have BK119 := n1_; have BK121 := n2_; have HB := n3_; clear n0_ n1_ n2_ n3_; (try clear hb); (try clear hb2); (try clear hk); (try clear hi)) | ((with_reducible refine gate_callee (f := 65) rfl ?_); refine goesL_ (some 61) rfl rfl Tryd.func65 (by kernel_rfl) rfl #[] rfl (by (try simp only [List.map_toArray, List.map_cons, List.map_nil]); first | done | rfl | (simp only [List.length_drop, List.length_take]; rfl)) ?_; (with_reducible refine (lexer_kinds.calls  t135 _ A45.out).mono ?_); rintro e w54 ⟨rfl, hb⟩; refine ⟨_, rfl, ?_⟩; have n0_ := Aside0.mk (blk_below (g := gb118) (o := .cells #[.int .i64 0, .string (⟨#[]⟩ : ByteArray), .int .i64 0, .int .i64 0] 46 (0, 0)) (bk_ BK118.out) hb); have n1_ := Aside0.mk (blk_below (g := gb119) (o := .cells #[.int .i64 0, .int .i64 0] 26 (0, 0)) (bk_ BK119.out) hb); have n2_ := Aside0.mk (blk_below (g := gb121) (o := .cells #[.int .i64 0, .string (⟨#[]⟩ : ByteArray), .int .i64 0, .int .i64 0] 46 (0, 0)) (bk_ BK121.out) hb); have n3_ := Aside0.mk (below_step (bl3_ HB.out GE118.out GE119.out GE121.out) hb); clear BK118; clear BK119; clear BK121; clear HB; have BK118 := n0_; have BK119 := n1_; have BK121 := n2_; have HB := n3_; clear n0_ n1_ n2_ n3_; (try clear hb); (try clear hb2); (try clear hk); (try clear hi); have p48 : 0 ≤ ((bt a0 t120) : Int) := of_decide_eq_true (by first | (with_reducible assumption) | assumption); have q48 : ((bt a0 t120) : Int) < 256 := of_decide_eq_true (by first | (with_reducible assumption) | assumption); have hx48 := lexer_kinds.at_run A45.out (bt a0 t120) p48 q48; replace p48 := eq_true p48; replace q48 := eq_true q48; have hnb55 := NB121_118.out; have hnc55 := NB118_121.out; have hnb56 := NB121_119.out; have hnc56 := NB119_121.out; have hcz57_0 : w54.cell? ⟨gb121, 0, none⟩ = some (.int .i64 0) := (blk_cell BK121.out 0).trans rfl; have hcz57_1 : w54.cell? ⟨gb121, 1, none⟩ = some (.string (⟨#[]⟩ : ByteArray)) := (blk_cell BK121.out 1).trans rfl; have hcz57_2 : w54.cell? ⟨gb121, 2, none⟩ = some (.int .i64 0) := (blk_cell BK121.out 2).trans rfl; have hcz57_3 : w54.cell? ⟨gb121, 3, none⟩ = some (.int .i64 0) := (blk_cell BK121.out 3).trans rfl; have hfz57_0 := blk_frozen BK121.out 0; have hfz57_1 := blk_frozen BK121.out 1; have hfz57_2 := blk_frozen BK121.out 2; have hfz57_3 := blk_frozen BK121.out 3))
                        go_meet
                        case rel => exact ⟨_, (wrap64 (t120 + 1)), (0), (4), (a0.extract (t120 : Int).toNat ((wrap64 (t120 + 1)) : Int).toNat), (0), (0), (by first | rfl | (simp; done) | (simp [*]; done) | (simp <;> rfl)), (by first | rfl | (simp; done) | (simp [*]; done) | (simp <;> rfl)), H', ⟨by first | omega | exact Nat.le_refl _⟩, ⟨by (with_reducible repeat (first | refine blk_drewN ?_ _ | refine blk_drew ?_ | refine blk_alloc ?_ _)); refine blk_far ?_ NB118_121.out _; (with_reducible repeat (first | refine blk_drewN ?_ _ | refine blk_drew ?_ | refine blk_alloc ?_ _)); refine blk_far ?_ NB118_121.out _; (with_reducible repeat (first | refine blk_drewN ?_ _ | refine blk_drew ?_ | refine blk_alloc ?_ _)); refine blk_far ?_ NB118_121.out _; (with_reducible repeat (first | refine blk_drewN ?_ _ | refine blk_drew ?_ | refine blk_alloc ?_ _)); refine blk_far ?_ NB118_121.out _; (with_reducible repeat (first | refine blk_drewN ?_ _ | refine blk_drew ?_ | refine blk_alloc ?_ _)); exact BK118.out⟩, ⟨by (with_reducible repeat (first | refine blk_drewN ?_ _ | refine blk_drew ?_ | refine blk_alloc ?_ _)); refine blk_far ?_ NB119_121.out _; (with_reducible repeat (first | refine blk_drewN ?_ _ | refine blk_drew ?_ | refine blk_alloc ?_ _)); refine blk_far ?_ NB119_121.out _; (with_reducible repeat (first | refine blk_drewN ?_ _ | refine blk_drew ?_ | refine blk_alloc ?_ _)); refine blk_far ?_ NB119_121.out _; (with_reducible repeat (first | refine blk_drewN ?_ _ | refine blk_drew ?_ | refine blk_alloc ?_ _)); refine blk_far ?_ NB119_121.out _; (with_reducible repeat (first | refine blk_drewN ?_ _ | refine blk_drew ?_ | refine blk_alloc ?_ _)); exact BK119.out⟩, ⟨by (with_reducible repeat (first | refine blk_drewN ?_ _ | refine blk_drew ?_ | refine blk_alloc ?_ _)); refine blk_put (cs := #[.int .i64 4, .string (a0.extract (t120 : Int).toNat ((wrap64 (t120 + 1)) : Int).toNat), .int .i64 0, .int .i64 0]) ?_ 3 _ rfl; (with_reducible repeat (first | refine blk_drewN ?_ _ | refine blk_drew ?_ | refine blk_alloc ?_ _)); refine blk_put (cs := #[.int .i64 4, .string (a0.extract (t120 : Int).toNat ((wrap64 (t120 + 1)) : Int).toNat), .int .i64 0, .int .i64 0]) ?_ 2 _ rfl; (with_reducible repeat (first | refine blk_drewN ?_ _ | refine blk_drew ?_ | refine blk_alloc ?_ _)); refine blk_put (cs := #[.int .i64 4, .string (⟨#[]⟩ : ByteArray), .int .i64 0, .int .i64 0]) ?_ 1 _ rfl; (with_reducible repeat (first | refine blk_drewN ?_ _ | refine blk_drew ?_ | refine blk_alloc ?_ _)); refine blk_put (cs := #[.int .i64 0, .string (⟨#[]⟩ : ByteArray), .int .i64 0, .int .i64 0]) ?_ 0 _ rfl; (with_reducible repeat (first | refine blk_drewN ?_ _ | refine blk_drew ?_ | refine blk_alloc ?_ _)); exact BK121.out⟩, ⟨bl3_ HB.out GE118.out GE119.out GE121.out⟩⟩
                      · rw [if_neg c52] at H
                        exact absurd H (by simp)
                    · rw [if_neg c51] at H
                      exact absurd H (by simp)
                  · rw [if_neg c49] at H
                    have c49b0 : ((lexer_kinds.at_ (bt a0 t120)) == 5) = false := beq_eq_false_iff_ne.mpr c49
                    have c49b1 : ((lexer_kinds.at_ (bt a0 t120)) != 5) = true := bne_iff_ne.mpr c49
                    have H' := Aside0.mk H
                    clear H
                    go_wp2_with (first | ((with_reducible refine gate_callee (f := 82) rfl ?_); refine goesL_ (some 29) rfl rfl Tryd.func82 (by kernel_rfl) rfl #[.int .u8 (bt a0 t120)] rfl (by (try simp only [List.map_toArray, List.map_cons, List.map_nil]); first | done | rfl | (simp only [List.length_drop, List.length_take]; rfl)) ?_; (with_reducible refine (lexer_isRun.calls (bt a0 t120) false _ A19.out).mono ?_); rintro e w58 ⟨rfl, hb⟩; refine ⟨_, rfl, ?_⟩; have n0_ := Aside0.mk (blk_below (g := gb118) (o := .cells #[.int .i64 0, .string (⟨#[]⟩ : ByteArray), .int .i64 0, .int .i64 0] 46 (0, 0)) (bk_ BK118.out) hb); have n1_ := Aside0.mk (blk_below (g := gb119) (o := .cells #[.int .i64 0, .int .i64 0] 26 (0, 0)) (bk_ BK119.out) hb); have n2_ := Aside0.mk (blk_below (g := gb121) (o := .cells #[.int .i64 0, .string (⟨#[]⟩ : ByteArray), .int .i64 0, .int .i64 0] 46 (0, 0)) (bk_ BK121.out) hb); have n3_ := Aside0.mk (below_step (bl3_ HB.out GE118.out GE119.out GE121.out) hb); clear BK118; clear BK119; clear BK121; clear HB; have BK118 := n0_; have BK119 := n1_; have BK121 := n2_; have HB := n3_; clear n0_ n1_ n2_ n3_; (try clear hb); (try clear hb2); (try clear hk); (try clear hi)) | ((with_reducible refine gate_callee (f := 65) rfl ?_); refine goesL_ (some 61) rfl rfl Tryd.func65 (by kernel_rfl) rfl #[] rfl (by (try simp only [List.map_toArray, List.map_cons, List.map_nil]); first | done | rfl | (simp only [List.length_drop, List.length_take]; rfl)) ?_; (with_reducible refine (lexer_kinds.calls  t135 _ A45.out).mono ?_); rintro e w59 ⟨rfl, hb⟩; refine ⟨_, rfl, ?_⟩; have n0_ := Aside0.mk (blk_below (g := gb118) (o := .cells #[.int .i64 0, .string (⟨#[]⟩ : ByteArray), .int .i64 0, .int .i64 0] 46 (0, 0)) (bk_ BK118.out) hb); have n1_ := Aside0.mk (blk_below (g := gb119) (o := .cells #[.int .i64 0, .int .i64 0] 26 (0, 0)) (bk_ BK119.out) hb); have n2_ := Aside0.mk (blk_below (g := gb121) (o := .cells #[.int .i64 0, .string (⟨#[]⟩ : ByteArray), .int .i64 0, .int .i64 0] 46 (0, 0)) (bk_ BK121.out) hb); have n3_ := Aside0.mk (below_step (bl3_ HB.out GE118.out GE119.out GE121.out) hb); clear BK118; clear BK119; clear BK121; clear HB; have BK118 := n0_; have BK119 := n1_; have BK121 := n2_; have HB := n3_; clear n0_ n1_ n2_ n3_; (try clear hb); (try clear hb2); (try clear hk); (try clear hi); have p48 : 0 ≤ ((bt a0 t120) : Int) := of_decide_eq_true (by first | (with_reducible assumption) | assumption); have q48 : ((bt a0 t120) : Int) < 256 := of_decide_eq_true (by first | (with_reducible assumption) | assumption); have hx48 := lexer_kinds.at_run A45.out (bt a0 t120) p48 q48; replace p48 := eq_true p48; replace q48 := eq_true q48))
                    go_meet
                    case rel => exact ⟨_, (wrap64 (t120 + 1)), (2), (0), ((⟨#[]⟩ : ByteArray)), (0), (0), (by first | rfl | (simp; done) | (simp [*]; done) | (simp <;> rfl)), (by first | rfl | (simp; done) | (simp [*]; done) | (simp <;> rfl)), H', ⟨by first | omega | exact Nat.le_refl _⟩, ⟨by (with_reducible repeat (first | refine blk_drewN ?_ _ | refine blk_drew ?_ | refine blk_alloc ?_ _)); exact BK118.out⟩, ⟨by (with_reducible repeat (first | refine blk_drewN ?_ _ | refine blk_drew ?_ | refine blk_alloc ?_ _)); exact BK119.out⟩, ⟨by (with_reducible repeat (first | refine blk_drewN ?_ _ | refine blk_drew ?_ | refine blk_alloc ?_ _)); exact BK121.out⟩, ⟨bl3_ HB.out GE118.out GE119.out GE121.out⟩⟩
                · rw [if_neg c47] at H
                  exact absurd H (by simp)
              · rw [if_neg c46] at H
                exact absurd H (by simp)
        case rest =>
          clear HC14
          try clear c1
          try clear p1
          try clear q1
          try clear hx1
          try clear c2
          try clear p2
          try clear q2
          try clear hx2
          try clear c3
          try clear c4
          try clear c4b0
          try clear c4b1
          try clear p4
          try clear q4
          try clear hx4
          try clear c5
          try clear c6
          try clear p6
          try clear c8
          try clear c11
          try clear c11b0
          try clear c12
          try clear c12b0
          try clear p13
          try clear q13
          try clear hx13
          try clear c20
          try clear c23
          try clear c23b0
          try clear c24
          try clear c24b0
          try clear p25
          try clear q25
          try clear hx25
          try clear c27
          try clear c30
          try clear c30b0
          try clear c30b1
          try clear c31
          try clear c31b0
          try clear c31b1
          try clear c32
          try clear c32b0
          try clear c32b1
          try clear c35
          try clear c36
          try clear c38
          try clear c38b0
          try clear c38b1
          try clear c42
          try clear c43
          try clear c46
          try clear c46b0
          try clear c47
          try clear c47b0
          try clear p48
          try clear q48
          try clear hx48
          try clear c49
          try clear c49b0
          try clear c49b1
          try clear c50
          try clear c50b0
          try clear c51
          try clear c51b0
          try clear c51b1
          try clear c52
          try clear c52b0
          try clear c52b1
          try clear c55
          try clear c56
          try clear hcz10_0
          try clear hcz10_1
          try clear hcz37_0
          try clear hcz37_1
          try clear hcz37_2
          try clear hcz37_3
          try clear hcz44_0
          try clear hcz44_1
          try clear hcz44_2
          try clear hcz44_3
          try clear hcz57_0
          try clear hcz57_1
          try clear hcz57_2
          try clear hcz57_3
          try clear hcz9_0
          try clear hcz9_1
          try clear hcz9_2
          try clear hcz9_3
          try clear hfz10_0
          try clear hfz10_1
          try clear hfz37_0
          try clear hfz37_1
          try clear hfz37_2
          try clear hfz37_3
          try clear hfz44_0
          try clear hfz44_1
          try clear hfz44_2
          try clear hfz44_3
          try clear hfz57_0
          try clear hfz57_1
          try clear hfz57_2
          try clear hfz57_3
          try clear hfz9_0
          try clear hfz9_1
          try clear hfz9_2
          try clear hfz9_3
          try clear p1
          try clear p13
          try clear p2
          try clear p25
          try clear p48
          try clear p6
          try clear q1
          try clear q13
          try clear q2
          try clear q25
          try clear q48
          obtain ⟨kq, x8_13, x9_13, x122000_13, x122001_13, x122002_13, x122003_13, rfl, rfl, HA, HJ13, BK118, BK119, BK121, HB⟩ := hcut
          cases kq with
          | zero => exact absurd HA.out (by simp [lexer_next.j2])
          | succ kj13 =>
            have H := HA.out
            clear HA
            simp only [lexer_next.j2] at H
            by_cases c60 : x9_13 = 0
            · rw [if_pos c60] at H
              have c60b0 : (x9_13 == 0) = true := beq_iff_eq.mpr c60
              have c60b1 : (x9_13 != 0) = false := bne_eq_false_iff_eq.mpr c60
              clear c60
              simp only [Option.some.injEq, Prod.mk.injEq] at H
              obtain ⟨rfl, rfl, rfl, rfl, rfl, rfl, rfl⟩ := H
              have hnb61 := NB121_118.out
              have hnc61 := NB118_121.out
              have hnb62 := NB121_119.out
              have hnc62 := NB119_121.out
              have hcz63_0 : wc.cell? ⟨gb121, 0, none⟩ = some (.int .i64 x122000_13) := (blk_cell BK121.out 0).trans rfl
              have hcz63_1 : wc.cell? ⟨gb121, 1, none⟩ = some (.string x122001_13) := (blk_cell BK121.out 1).trans rfl
              have hcz63_2 : wc.cell? ⟨gb121, 2, none⟩ = some (.int .i64 x122002_13) := (blk_cell BK121.out 2).trans rfl
              have hcz63_3 : wc.cell? ⟨gb121, 3, none⟩ = some (.int .i64 x122003_13) := (blk_cell BK121.out 3).trans rfl
              have hfz63_0 := blk_frozen BK121.out 0
              have hfz63_1 := blk_frozen BK121.out 1
              have hfz63_2 := blk_frozen BK121.out 2
              have hfz63_3 := blk_frozen BK121.out 3
              have hnb64 := NB118_119.out
              have hnc64 := NB119_118.out
              have hcz65_0 : wc.cell? ⟨gb118, 0, none⟩ = some (.int .i64 0) := (blk_cell BK118.out 0).trans rfl
              have hcz65_1 : wc.cell? ⟨gb118, 1, none⟩ = some (.string (⟨#[]⟩ : ByteArray)) := (blk_cell BK118.out 1).trans rfl
              have hcz65_2 : wc.cell? ⟨gb118, 2, none⟩ = some (.int .i64 0) := (blk_cell BK118.out 2).trans rfl
              have hcz65_3 : wc.cell? ⟨gb118, 3, none⟩ = some (.int .i64 0) := (blk_cell BK118.out 3).trans rfl
              have hfz65_0 := blk_frozen BK118.out 0
              have hfz65_1 := blk_frozen BK118.out 1
              have hfz65_2 := blk_frozen BK118.out 2
              have hfz65_3 := blk_frozen BK118.out 3
              have hcz66_0 : wc.cell? ⟨gb119, 0, none⟩ = some (.int .i64 0) := (blk_cell BK119.out 0).trans rfl
              have hcz66_1 : wc.cell? ⟨gb119, 1, none⟩ = some (.int .i64 0) := (blk_cell BK119.out 1).trans rfl
              have hfz66_0 := blk_frozen BK119.out 0
              have hfz66_1 := blk_frozen BK119.out 1
              go_wp2
              refine bodyPost_ret (results_list (rs := [.cell 4 46, .tmp 5, .cell 6 26]) rfl (by simp) (.cell gb118 46 #[.int .i64 x122000_13, .string x122001_13, .int .i64 x122002_13, .int .i64 t120] (0, 0) _ rfl (by (with_reducible repeat (first | refine blk_drewN ?_ _ | refine blk_drew ?_ | refine blk_alloc ?_ _)); refine blk_far ?_ NB118_119.out _; (with_reducible repeat (first | refine blk_drewN ?_ _ | refine blk_drew ?_ | refine blk_alloc ?_ _)); refine blk_far ?_ NB118_119.out _; (with_reducible repeat (first | refine blk_drewN ?_ _ | refine blk_drew ?_ | refine blk_alloc ?_ _)); refine blk_put (cs := #[.int .i64 x122000_13, .string x122001_13, .int .i64 x122002_13, .int .i64 0]) ?_ 3 _ rfl; (with_reducible repeat (first | refine blk_drewN ?_ _ | refine blk_drew ?_ | refine blk_alloc ?_ _)); refine blk_put (cs := #[.int .i64 x122000_13, .string x122001_13, .int .i64 0, .int .i64 0]) ?_ 2 _ rfl; (with_reducible repeat (first | refine blk_drewN ?_ _ | refine blk_drew ?_ | refine blk_alloc ?_ _)); refine blk_put (cs := #[.int .i64 x122000_13, .string (⟨#[]⟩ : ByteArray), .int .i64 0, .int .i64 0]) ?_ 1 _ rfl; (with_reducible repeat (first | refine blk_drewN ?_ _ | refine blk_drew ?_ | refine blk_alloc ?_ _)); refine blk_put (cs := #[.int .i64 0, .string (⟨#[]⟩ : ByteArray), .int .i64 0, .int .i64 0]) ?_ 0 _ rfl; (with_reducible repeat (first | refine blk_drewN ?_ _ | refine blk_drew ?_ | refine blk_alloc ?_ _)); refine blk_far ?_ NB118_121.out _; (with_reducible repeat (first | refine blk_drewN ?_ _ | refine blk_drew ?_ | refine blk_alloc ?_ _)); exact BK118.out) Tryd.underlying46 rfl (by kernel_rfl) (.tmp (.cell gb119 26 #[.int .i64 0, .int .i64 0] (0, 0) _ rfl (by (with_reducible repeat (first | refine blk_drewN ?_ _ | refine blk_drew ?_ | refine blk_alloc ?_ _)); refine blk_put (cs := #[.int .i64 0, .int .i64 0]) ?_ 1 _ rfl; (with_reducible repeat (first | refine blk_drewN ?_ _ | refine blk_drew ?_ | refine blk_alloc ?_ _)); refine blk_put (cs := #[.int .i64 0, .int .i64 0]) ?_ 0 _ rfl; (with_reducible repeat (first | refine blk_drewN ?_ _ | refine blk_drew ?_ | refine blk_alloc ?_ _)); refine blk_far ?_ NB119_118.out _; (with_reducible repeat (first | refine blk_drewN ?_ _ | refine blk_drew ?_ | refine blk_alloc ?_ _)); refine blk_far ?_ NB119_118.out _; (with_reducible repeat (first | refine blk_drewN ?_ _ | refine blk_drew ?_ | refine blk_alloc ?_ _)); refine blk_far ?_ NB119_118.out _; (with_reducible repeat (first | refine blk_drewN ?_ _ | refine blk_drew ?_ | refine blk_alloc ?_ _)); refine blk_far ?_ NB119_118.out _; (with_reducible repeat (first | refine blk_drewN ?_ _ | refine blk_drew ?_ | refine blk_alloc ?_ _)); refine blk_far ?_ NB119_121.out _; (with_reducible repeat (first | refine blk_drewN ?_ _ | refine blk_drew ?_ | refine blk_alloc ?_ _)); exact BK119.out) Tryd.underlying26 rfl (by kernel_rfl) .nil)))) rfl ?_
              exact ⟨er_, bl3_ HB.out GE118.out GE119.out GE121.out⟩
            · rw [if_neg c60] at H
              have c60b0 : (x9_13 == 0) = false := beq_eq_false_iff_ne.mpr c60
              have c60b1 : (x9_13 != 0) = true := bne_iff_ne.mpr c60
              simp only [Option.some.injEq, Prod.mk.injEq] at H
              obtain ⟨rfl, rfl, rfl, rfl, rfl, rfl, rfl⟩ := H
              have hnb67 := NB118_119.out
              have hnc67 := NB119_118.out
              have hnb68 := NB118_121.out
              have hnc68 := NB121_118.out
              have hcz69_0 : wc.cell? ⟨gb118, 0, none⟩ = some (.int .i64 0) := (blk_cell BK118.out 0).trans rfl
              have hcz69_1 : wc.cell? ⟨gb118, 1, none⟩ = some (.string (⟨#[]⟩ : ByteArray)) := (blk_cell BK118.out 1).trans rfl
              have hcz69_2 : wc.cell? ⟨gb118, 2, none⟩ = some (.int .i64 0) := (blk_cell BK118.out 2).trans rfl
              have hcz69_3 : wc.cell? ⟨gb118, 3, none⟩ = some (.int .i64 0) := (blk_cell BK118.out 3).trans rfl
              have hfz69_0 := blk_frozen BK118.out 0
              have hfz69_1 := blk_frozen BK118.out 1
              have hfz69_2 := blk_frozen BK118.out 2
              have hfz69_3 := blk_frozen BK118.out 3
              have hnb70 := NB119_121.out
              have hnc70 := NB121_119.out
              have hcz71_0 : wc.cell? ⟨gb119, 0, none⟩ = some (.int .i64 0) := (blk_cell BK119.out 0).trans rfl
              have hcz71_1 : wc.cell? ⟨gb119, 1, none⟩ = some (.int .i64 0) := (blk_cell BK119.out 1).trans rfl
              have hfz71_0 := blk_frozen BK119.out 0
              have hfz71_1 := blk_frozen BK119.out 1
              go_wp2
              refine bodyPost_ret (results_list (rs := [.cell 4 46, .tmp 5, .cell 6 26]) rfl (by simp) (.cell gb118 46 #[.int .i64 0, .string (⟨#[]⟩ : ByteArray), .int .i64 0, .int .i64 0] (0, 0) _ rfl (by (with_reducible repeat (first | refine blk_drewN ?_ _ | refine blk_drew ?_ | refine blk_alloc ?_ _)); refine blk_far ?_ NB118_119.out _; (with_reducible repeat (first | refine blk_drewN ?_ _ | refine blk_drew ?_ | refine blk_alloc ?_ _)); refine blk_far ?_ NB118_119.out _; (with_reducible repeat (first | refine blk_drewN ?_ _ | refine blk_drew ?_ | refine blk_alloc ?_ _)); refine blk_put (cs := #[.int .i64 0, .string (⟨#[]⟩ : ByteArray), .int .i64 0, .int .i64 0]) ?_ 3 _ rfl; (with_reducible repeat (first | refine blk_drewN ?_ _ | refine blk_drew ?_ | refine blk_alloc ?_ _)); refine blk_put (cs := #[.int .i64 0, .string (⟨#[]⟩ : ByteArray), .int .i64 0, .int .i64 0]) ?_ 2 _ rfl; (with_reducible repeat (first | refine blk_drewN ?_ _ | refine blk_drew ?_ | refine blk_alloc ?_ _)); refine blk_put (cs := #[.int .i64 0, .string (⟨#[]⟩ : ByteArray), .int .i64 0, .int .i64 0]) ?_ 1 _ rfl; (with_reducible repeat (first | refine blk_drewN ?_ _ | refine blk_drew ?_ | refine blk_alloc ?_ _)); refine blk_put (cs := #[.int .i64 0, .string (⟨#[]⟩ : ByteArray), .int .i64 0, .int .i64 0]) ?_ 0 _ rfl; (with_reducible repeat (first | refine blk_drewN ?_ _ | refine blk_drew ?_ | refine blk_alloc ?_ _)); exact BK118.out) Tryd.underlying46 rfl (by kernel_rfl) (.tmp (.cell gb119 26 #[.int .i64 x9_13, .int .i64 t120] (0, 0) _ rfl (by (with_reducible repeat (first | refine blk_drewN ?_ _ | refine blk_drew ?_ | refine blk_alloc ?_ _)); refine blk_put (cs := #[.int .i64 x9_13, .int .i64 0]) ?_ 1 _ rfl; (with_reducible repeat (first | refine blk_drewN ?_ _ | refine blk_drew ?_ | refine blk_alloc ?_ _)); refine blk_put (cs := #[.int .i64 0, .int .i64 0]) ?_ 0 _ rfl; (with_reducible repeat (first | refine blk_drewN ?_ _ | refine blk_drew ?_ | refine blk_alloc ?_ _)); refine blk_far ?_ NB119_118.out _; (with_reducible repeat (first | refine blk_drewN ?_ _ | refine blk_drew ?_ | refine blk_alloc ?_ _)); refine blk_far ?_ NB119_118.out _; (with_reducible repeat (first | refine blk_drewN ?_ _ | refine blk_drew ?_ | refine blk_alloc ?_ _)); refine blk_far ?_ NB119_118.out _; (with_reducible repeat (first | refine blk_drewN ?_ _ | refine blk_drew ?_ | refine blk_alloc ?_ _)); refine blk_far ?_ NB119_118.out _; (with_reducible repeat (first | refine blk_drewN ?_ _ | refine blk_drew ?_ | refine blk_alloc ?_ _)); exact BK119.out) Tryd.underlying26 rfl (by kernel_rfl) .nil)))) rfl ?_
              exact ⟨er_, bl3_ HB.out GE118.out GE119.out GE121.out⟩
      · rw [if_neg c12] at H
        exact absurd H (by simp)
    · rw [if_neg c11] at H
      exact absurd H (by simp)
end Go.Proofs.YtkifdadhojbohaaDoor.Pr
namespace Go.Proofs.YtkifdadhojbohaaDoor.Pu
open Go.RowKit Go.Proofs.YtkifdadhojbohaaDoor Go.Proofs.YtkifdadhojbohaaDoor.Pr Go.Proofs.YtkifdadhojbohaaDoorW.PrintWords Go.Proofs.YtkifdadhojbohaaDoorW.PrintLast
theorem toList_nil (s : ByteArray) : s.toList = [] ↔ lst s = [] := by rw [toList_lst]
theorem wrap_nat (i : Nat) (h : i ≤ 1000000) : wrap64 ((i : Int) + 1) = ((i + 1 : Nat) : Int) := by rw [wrap64_of (by omega) (by omega)]; rfl
theorem natO {i : Nat} : (0 : Int) ≤ (i : Int) := by omega
/-! ### what the lexer computes -/
def isRunB (c : UInt8) : Bool := kindOf c.toNat == 2 || kindOf c.toNat == 3 || kindOf c.toNat == 4
def isLet (c : UInt8) : Bool := kindOf c.toNat == 2 && c.toNat != 95
def isDig (c : UInt8) : Bool := kindOf c.toNat == 3
def isDot (c : UInt8) : Bool := c.toNat == 46
/-- A run as a number: its thousandths and the error. -/
def numL (t : List UInt8) : Int × Int :=
  let i := t.findIdx (· == 46)
  let w := t.take i
  let p := t.drop (i + 1)
  if w = [] ∨ (1 < w.length ∧ w.head? = some 48) ∨ (i < t.length ∧ (p = [] ∨ 3 < p.length)) then (0, 2)
  else if (w ++ p).all isDig = false then (0, 2)
  else if 10 < w.length then (0, 5)
  else if digitsVal (w ++ (p ++ [48, 48, 48]).take 3) > 1000000000 then (0, 5)
  else ((digitsVal (w ++ (p ++ [48, 48, 48]).take 3) : Int), 0)
/-- A run as a word: the error. -/
def wordL (t : List UInt8) : Int := if t.any isDot then 2 else if t.any isLet then (if 32 < t.length then 6 else 0) else 2
def badT (c : UInt8) : Bool := c.toNat < 32 || 126 < c.toNat || c.toNat == 34
/-- A title: the error. -/
def titleL (t : List UInt8) : Int :=
  if t = [] ∨ t.head? = some 32 ∨ t.getLast? = some 32 then 2 else if t.any badT then 2 else if 40 < t.length then 6 else 0
/-- A token, what is left behind it, and the error. -/
structure Res where
  kind : Int
  text : List UInt8
  n : Int
  rest : List UInt8
  code : Int
def clsL (t rest : List UInt8) : Res := if (numL t).2 = 2 then ⟨1, t, 0, rest, wordL t⟩ else ⟨2, [], (numL t).1, rest, (numL t).2⟩
def inStr (c : UInt8) : Bool := c.toNat != 34 && c.toNat != 10
def textL (l : List UInt8) : Res :=
  match l.dropWhile inStr with
  | [] => ⟨0, [], 0, [], 2⟩
  | c :: r => if c.toNat = 34 then ⟨3, l.takeWhile inStr, 0, r, titleL (l.takeWhile inStr)⟩ else ⟨0, [], 0, [], 2⟩
def tokL : List UInt8 → Res
  | [] => ⟨5, [], 0, [], 0⟩
  | c :: l =>
    if isRunB c then clsL (c :: l.takeWhile isRunB) (l.dropWhile isRunB)
    else if c.toNat = 34 then textL l
    else if kindOf c.toNat = 5 then ⟨4, [c], 0, l, 0⟩
    else ⟨0, [], 0, [], 2⟩
/-! ### isRun -/
theorem isRun_f (c : UInt8) : lexer_isRun.f (c.toNat : Int) = some (isRunB c) := by
  unfold lexer_isRun.f isRunB
  rw [kinds_f]
  simp only [Option.bind_some, at_byte]
  rw [if_pos (by omega), if_pos (byte_lt c)]
  by_cases h2 : kindOf c.toNat = 2
  · rw [if_pos (by omega)]; simp [h2]
  · rw [if_neg (by omega)]
    by_cases h3 : kindOf c.toNat = 3
    · rw [if_pos (by omega)]; simp [h3]
    · rw [if_neg (by omega)]
      have : ((kindOf c.toNat : Int) == 4) = (kindOf c.toNat == 4) := by
        rw [Bool.eq_iff_iff]; simp only [beq_iff_eq]; omega
      rw [this]; simp [h2, h3]
/-! ### word -/
theorem word_loop (s : ByteArray) (hs : s.size ≤ 1000000) : ∀ (d i : Nat) (b : Bool) (l : List UInt8), i ≤ s.size → s.size - i = d → (lst s).drop i = l →
    Ev (fun k => lexer_word.l0 k s b s.size i) (if l.any isDot then 2 else if b || l.any isLet then (if 32 < s.size then 6 else 0) else 2) := by
  intro d
  induction d with
  | zero =>
    intro i b l hi hd hl
    obtain rfl : i = s.size := by omega
    obtain rfl : l = [] := by rw [← hl]; exact List.drop_eq_nil_of_le (by rw [lst_length]; omega)
    refine Ev.succ ?_
    simp only [lexer_word.l0]
    refine Ev.ifn (by omega) ?_
    cases b with
    | false => exact Ev.ifn (by decide) (Ev.ret (by simp))
    | true =>
      refine Ev.ifp rfl ?_
      by_cases h : 32 < s.size
      · exact Ev.ifp (by omega) (Ev.ret (by simp [h]))
      · exact Ev.ifn (by omega) (Ev.ret (by simp [h]))
  | succ d ih =>
    intro i b l hi hd hl
    cases l with
    | nil => exact absurd (at_nil hi hl) (by omega)
    | cons c l =>
      obtain ⟨h1, h2, h3⟩ := at_cons hl
      refine Ev.succ ?_
      simp only [lexer_word.l0]
      rw [h2, wrap_nat i (by omega)]
      refine Ev.ifp (by omega) (Ev.ifp (by omega) (Ev.ifp (by omega) ?_))
      by_cases h46 : c.toNat = 46
      · exact Ev.ifp (by omega) (Ev.ret (by simp [isDot, h46]))
      · refine Ev.ifn (by omega) ?_
        have hdot : isDot c = false := by simp [isDot, h46]
        simp only [List.any_cons, hdot, Bool.false_or]
        cases b with
        | true => exact Ev.ifp rfl (by simpa using ih (i + 1) true l (by omega) (by omega) h3)
        | false =>
          refine Ev.ifn (by decide) (Ev.val kinds_f (Ev.ifp (by omega) (Ev.ifp (byte_lt c) ?_)))
          rw [at_byte]
          by_cases hk : kindOf c.toNat = 2
          · refine Ev.ifp (by omega) ?_
            have hb : ((c.toNat : Int) != 95) = isLet c := by
              rw [isLet, hk, Bool.eq_iff_iff]; simp; omega
            rw [hb]
            simpa using ih (i + 1) (isLet c) l (by omega) (by omega) h3
          · refine Ev.ifn (by omega) ?_
            have hb : isLet c = false := by simp [isLet, hk]
            simpa [hb] using ih (i + 1) false l (by omega) (by omega) h3
theorem word_f (s : ByteArray) (hs : s.size ≤ 1000000) : Ev (fun k => lexer_word.f k s) (wordL (lst s)) := by
  have h := word_loop s hs _ 0 false (lst s) (by omega) rfl rfl
  simp only [Bool.false_or] at h
  exact h
/-! ### title -/
theorem title_loop (s : ByteArray) (hs : s.size ≤ 1000000) : ∀ (d i : Nat) (l : List UInt8), i ≤ s.size → s.size - i = d → (lst s).drop i = l →
    Ev (fun k => lexer_title.l0 k s s.size i) (if l.any badT then 2 else if 40 < s.size then 6 else 0) := by
  intro d
  induction d with
  | zero =>
    intro i l hi hd hl
    obtain rfl : i = s.size := by omega
    obtain rfl : l = [] := by rw [← hl]; exact List.drop_eq_nil_of_le (by rw [lst_length]; omega)
    refine Ev.succ ?_
    simp only [lexer_title.l0]
    refine Ev.ifn (by omega) ?_
    by_cases h : 40 < s.size
    · exact Ev.ifp (by omega) (Ev.ret (by simp [h]))
    · exact Ev.ifn (by omega) (Ev.ret (by simp [h]))
  | succ d ih =>
    intro i l hi hd hl
    cases l with
    | nil => exact absurd (at_nil hi hl) (by omega)
    | cons c l =>
      obtain ⟨h1, h2, h3⟩ := at_cons hl
      refine Ev.succ ?_
      simp only [lexer_title.l0]
      rw [h2, wrap_nat i (by omega)]
      refine Ev.ifp (by omega) (Ev.ifp (by omega) (Ev.ifp (by omega) ?_))
      by_cases ha : c.toNat < 32
      · exact Ev.ifp (by omega) (Ev.ret (by simp [badT, ha]))
      · refine Ev.ifn (by omega) ?_
        by_cases hb : 126 < c.toNat
        · exact Ev.ifp (by omega) (Ev.ret (by simp [badT, hb]))
        · refine Ev.ifn (by omega) ?_
          by_cases hc : c.toNat = 34
          · exact Ev.ifp (by omega) (Ev.ret (by simp [badT, hc]))
          · refine Ev.ifn (by omega) ?_
            have : badT c = false := by simp [badT, ha, hb, hc]
            simp only [List.any_cons, this, Bool.false_or]
            exact ih (i + 1) l (by omega) (by omega) h3
theorem head_bt {s : ByteArray} (h : 0 < s.size) : ∃ c, (lst s).head? = some c ∧ bt s 0 = (c.toNat : Int) := by
  cases hl : lst s with
  | nil => have := lst_length s; rw [hl] at this; simp at this; omega
  | cons c l =>
    have := at_cons (s := s) (i := 0) (c := c) (l := l) (by simpa using hl)
    exact ⟨c, rfl, this.2.1⟩
theorem bt_get {s : ByteArray} {i : Nat} (h : i < s.size) : ∃ c, (lst s)[i]? = some c ∧ bt s (i : Int) = (c.toNat : Int) := by
  have hi : i < (lst s).length := by rw [lst_length]; exact h
  refine ⟨(lst s)[i], List.getElem?_eq_getElem hi, ?_⟩
  exact (at_cons (s := s) (i := i) (c := (lst s)[i]) (l := (lst s).drop (i + 1)) (List.drop_eq_getElem_cons hi)).2.1
theorem last_bt {s : ByteArray} (h : 0 < s.size) : ∃ c, (lst s).getLast? = some c ∧ bt s ((s.size - 1 : Nat) : Int) = (c.toNat : Int) := by
  obtain ⟨c, h1, h2⟩ := bt_get (s := s) (i := s.size - 1) (by omega)
  refine ⟨c, ?_, h2⟩
  rw [List.getLast?_eq_getElem?, lst_length]; exact h1
theorem byte_eq {c : UInt8} {n : Nat} (hn : n < 256) : (some c = some (UInt8.ofNat n)) ↔ c.toNat = n := by
  rw [Option.some.injEq, ← UInt8.toNat_inj, UInt8.toNat_ofNat', Nat.mod_eq_of_lt hn]
theorem title_f (s : ByteArray) (hs : s.size ≤ 1000000) : Ev (fun k => lexer_title.f k s) (titleL (lst s)) := by
  have hloop := title_loop s hs _ 0 (lst s) (by omega) rfl rfl
  unfold lexer_title.f titleL
  by_cases h0 : lst s = []
  · refine Ev.ifp (by rw [toList_lst]; exact h0) (Ev.succ ?_)
    simp only [lexer_title.j0]
    exact Ev.ifp (by simp) (Ev.ret (by simp [h0]))
  · have hp : 0 < s.size := by
      rw [← lst_length]; exact List.length_pos_iff.2 h0
    refine Ev.ifn (by rw [toList_lst]; exact h0) (Ev.ifp (by omega) ?_)
    obtain ⟨c, hc, hb⟩ := head_bt hp
    obtain ⟨d, hd, he⟩ := last_bt hp
    rw [hb]
    have hw : wrap64 ((s.size : Int) - 1) = ((s.size - 1 : Nat) : Int) := by rw [wrap64_of (by omega) (by omega)]; omega
    rw [hw, he, hc, hd]
    have i1 : (some c = some (32 : UInt8)) ↔ c.toNat = 32 := byte_eq (by decide)
    have i2 : (some d = some (32 : UInt8)) ↔ d.toNat = 32 := byte_eq (by decide)
    by_cases h32 : c.toNat = 32
    · refine Ev.ifp (by omega) (Ev.succ ?_)
      simp only [lexer_title.j0]
      exact Ev.ifp (by simp) (Ev.ret (by rw [if_pos (.inr (.inl (i1.2 h32)))]))
    · refine Ev.ifn (by omega) (Ev.ifp (by omega) (Ev.ifp (by omega) (Ev.succ ?_)))
      simp only [lexer_title.j0]
      by_cases hl : d.toNat = 32
      · refine Ev.ifp (by rw [beq_iff_eq]; omega) (Ev.ret (by rw [if_pos (.inr (.inr (i2.2 hl)))]))
      · refine Ev.ifn (by rw [beq_iff_eq]; omega) ?_
        rw [if_neg (by rw [i1, i2]; simp [h0, h32, hl])]
        rw [lst_length]
        exact hloop
end Go.Proofs.YtkifdadhojbohaaDoor.Pu
namespace Go.Proofs.YtkifdadhojbohaaDoor.Pu
open Go.RowKit Go.Proofs.YtkifdadhojbohaaDoor Go.Proofs.YtkifdadhojbohaaDoor.Pr Go.Proofs.YtkifdadhojbohaaDoorW.PrintWords Go.Proofs.YtkifdadhojbohaaDoorW.PrintLast
theorem isDig_iff (c : UInt8) : isDig c = true ↔ 48 ≤ c.toNat ∧ c.toNat ≤ 57 := by
  unfold isDig kindOf
  rw [beq_iff_eq]
  constructor
  · intro h
    (repeat' split at h) <;> omega
  · intro h
    rw [if_neg (by omega), if_neg (by omega), if_pos h]
theorem digs_all {l : List UInt8} (h : l.all isDig = true) : l.all (fun c => 48 ≤ c.toNat && c.toNat ≤ 57) = true := by
  rw [List.all_eq_true] at h ⊢
  intro c hc
  have := (isDig_iff c).1 (h c hc)
  simp [this.1, this.2]
/-! ### number -/
def tailL (w p : List UInt8) : Int × Int :=
  if 10 < w.length then (0, 5)
  else if digitsVal (w ++ (p ++ [48, 48, 48]).take 3) > 1000000000 then (0, 5)
  else ((digitsVal (w ++ (p ++ [48, 48, 48]).take 3) : Int), 0)
theorem num_tail (w p : ByteArray) (hw : lst w ≠ []) (hs : w.size + p.size ≤ 1000000) (hd : (lst w ++ lst p).all isDig = true) (k : Nat) (x : Int) :
    (if (w.size : Int) > 10 then (some ((0 : Int), (5 : Int))) else (if p.size + 3 ≤ 9223372036854775807 then (if (0 : Int) ≤ 3 then (if 3 ≤ ((p ++ (⟨#[48, 48, 48]⟩ : ByteArray)).size : Int) then (if w.size + ((p ++ (⟨#[48, 48, 48]⟩ : ByteArray)).extract 0 3).size ≤ 9223372036854775807 then ((strconv_ParseInt.f (w ++ ((p ++ (⟨#[48, 48, 48]⟩ : ByteArray)).extract 0 3)) 10 64).bind fun bt110 => (if bt110.1 > 1000000000 then (some (0, 5)) else (some (bt110.1, 0)))) else (none)) else (none)) else (none)) else (none))) = some (tailL (lst w) (lst p)) := by
  have hl : (lst w).length = w.size := lst_length w
  unfold tailL
  by_cases h10 : 10 < w.size
  · rw [if_pos (show (w.size : Int) > 10 by omega), if_pos (show 10 < (lst w).length by omega)]
  · rw [if_neg (show ¬ (w.size : Int) > 10 by omega), if_neg (show ¬ 10 < (lst w).length by omega), if_pos (show p.size + 3 ≤ 9223372036854775807 by omega), if_pos (show (0 : Int) ≤ 3 by decide)]
    have hsz : ((p ++ (⟨#[48, 48, 48]⟩ : ByteArray)).size) = p.size + 3 := by rw [ByteArray.size_append]; rfl
    rw [if_pos (by omega)]
    have hlx : lst ((p ++ (⟨#[48, 48, 48]⟩ : ByteArray)).extract 0 3) = (lst p ++ [48, 48, 48]).take 3 := by
      rw [lst_extract, lst_append]; rfl
    have hx3 : ((p ++ (⟨#[48, 48, 48]⟩ : ByteArray)).extract 0 3).size = 3 := by
      rw [← lst_length, hlx, List.length_take, List.length_append, lst_length]; simp
    rw [if_pos (by omega)]
    have hla : lst (w ++ ((p ++ (⟨#[48, 48, 48]⟩ : ByteArray)).extract 0 3)) = lst w ++ (lst p ++ [48, 48, 48]).take 3 := by rw [lst_append, hlx]
    have hsa : (w ++ ((p ++ (⟨#[48, 48, 48]⟩ : ByteArray)).extract 0 3)).size = w.size + 3 := by rw [ByteArray.size_append, hx3]
    have h0 : 0 < w.size := by rw [← hl]; exact List.length_pos_iff.2 hw
    rw [List.all_append, Bool.and_eq_true] at hd
    have hdig : (lst (w ++ ((p ++ (⟨#[48, 48, 48]⟩ : ByteArray)).extract 0 3))).all (fun c => 48 ≤ c.toNat && c.toNat ≤ 57) = true := by
      rw [hla]
      apply digs_all
      rw [List.all_append, hd.1, Bool.true_and, List.all_eq_true]
      intro c hc
      have hc2 := List.mem_of_mem_take hc
      rw [List.mem_append] at hc2
      rcases hc2 with hc2 | hc2
      · exact (List.all_eq_true.1 hd.2) c hc2
      · simp at hc2; subst hc2; decide
    have hpi : strconv_ParseInt.f (w ++ ((p ++ (⟨#[48, 48, 48]⟩ : ByteArray)).extract 0 3)) 10 64 = some ((digitsVal (lst w ++ (lst p ++ [48, 48, 48]).take 3) : Int), .nilIface) := by
      unfold strconv_ParseInt.f
      rw [if_pos ⟨rfl, rfl, by omega, by omega, hdig⟩]
      rw [← hla]; rfl
    rw [hpi]
    simp only [Option.bind_some]
    by_cases hm : digitsVal (lst w ++ (lst p ++ [48, 48, 48]).take 3) > 1000000000
    · rw [if_pos (by omega), if_pos hm]
    · rw [if_neg (by omega), if_neg hm]
theorem num_loop (w p : ByteArray) (hw : lst w ≠ []) (hs : w.size + p.size ≤ 1000000) : ∀ (d i : Nat) (l : List UInt8), i ≤ w.size + p.size → w.size + p.size - i = d → (lst w ++ lst p).drop i = l →
    ((lst w ++ lst p).take i).all isDig = true → Ev (fun k => lexer_number.l0 k w p ((w.size + p.size : Nat) : Int) i) (if l.all isDig then tailL (lst w) (lst p) else (0, 2)) := by
  have hsz : (w ++ p).size = w.size + p.size := ByteArray.size_append
  intro d
  induction d with
  | zero =>
    intro i l hi hd hl ht
    obtain rfl : i = w.size + p.size := by omega
    have hlen : (lst w ++ lst p).length = w.size + p.size := by simp [lst_length]
    obtain rfl : l = [] := by rw [← hl]; exact List.drop_eq_nil_of_le (by omega)
    rw [List.take_of_length_le (by omega)] at ht
    refine Ev.succ ?_
    simp only [lexer_number.l0]
    refine Ev.ifn (by omega) ?_
    exact Ev.congr (fun k => num_tail w p hw hs ht k 0) (Ev.ret (by simp))
  | succ d ih =>
    intro i l hi hd hl ht
    cases l with
    | nil => have := congrArg List.length hl; simp [lst_length] at this; omega
    | cons c l =>
      rw [← lst_append] at hl
      obtain ⟨h1, h2, h3⟩ := at_cons hl
      have htk : (lst w ++ lst p).take (i + 1) = (lst w ++ lst p).take i ++ [c] := by
        rw [← lst_append, List.take_succ_eq_append_getElem (by rw [lst_length]; exact h1)]
        congr 2
        have := congrArg (·[0]?) hl
        simp only [List.getElem?_drop, Nat.add_zero, List.getElem?_cons_zero] at this
        exact (List.getElem?_eq_some_iff.1 this).2
      refine Ev.succ ?_
      simp only [lexer_number.l0]
      rw [h2, wrap_nat i (by omega)]
      refine Ev.ifp (by omega) (Ev.val kinds_f (Ev.ifp (by omega) (Ev.ifp (by omega) (Ev.ifp (by omega) (Ev.ifp (by omega) (Ev.ifp (byte_lt c) ?_))))))
      rw [at_byte]
      by_cases hk : kindOf c.toNat = 3
      · refine Ev.ifp (by omega) ?_
        have hdg : isDig c = true := by simp [isDig, hk]
        rw [lst_append] at h3
        have := ih (i + 1) l (by omega) (by omega) h3 (by rw [htk, List.all_append, ht]; simp [hdg])
        simpa [hdg] using this
      · refine Ev.ifn (by omega) (Ev.ret ?_)
        have hdg : isDig c = false := by simp [isDig, hk]
        simp [hdg]
theorem num_j0 (w p : ByteArray) (hs : w.size + p.size ≤ 1000000) (b : Bool) (hw : b = false → lst w ≠ []) :
    Ev (fun k => lexer_number.j0 k w p b) (if b then (0, 2) else if (lst w ++ lst p).all isDig then tailL (lst w) (lst p) else (0, 2)) := by
  refine Ev.succ ?_
  simp only [lexer_number.j0]
  cases b with
  | true => exact Ev.ifp (by simp) (Ev.ret (by simp))
  | false =>
    refine Ev.ifn (by simp) ?_
    have hwr : wrap64 ((w.size : Int) + (p.size : Int)) = ((w.size + p.size : Nat) : Int) := by rw [wrap64_of (by omega) (by omega)]; omega
    rw [hwr]
    have := num_loop w p (hw rfl) hs _ 0 _ (by omega) rfl rfl (by simp)
    simpa using this
theorem cut_f (s : ByteArray) (hs : s.size ≤ 1000000) : ∃ w p b, strings_Cut.f s (⟨#[46]⟩ : ByteArray) = some (w, p, b) ∧ lst w = (lst s).take ((lst s).findIdx (· == 46)) ∧ lst p = (lst s).drop ((lst s).findIdx (· == 46) + 1) ∧ b = decide ((lst s).findIdx (· == 46) < s.size) := by
  unfold strings_Cut.f
  rw [if_pos ⟨rfl, by omega⟩]
  unfold cutDot
  by_cases h : (lst s).findIdx (· == 46) < s.size
  · have h' : s.data.toList.findIdx (· == 46) < s.size := h
    refine ⟨_, _, _, by rw [if_pos h'], ?_, ?_, by simp [h]⟩
    · rw [lst_extract]; simp [lst]
    · rw [lst_extract, List.take_of_length_le (by rw [lst_length]; omega)]; rfl
  · have h' : ¬ s.data.toList.findIdx (· == 46) < s.size := h
    refine ⟨_, _, _, by rw [if_neg h'], ?_, ?_, by simp [h]⟩
    · rw [List.take_of_length_le (by rw [lst_length]; omega)]
    · rw [List.drop_eq_nil_of_le (by rw [lst_length]; omega)]; rfl
theorem number_f (s : ByteArray) (hs : s.size ≤ 1000000) : Ev (fun k => lexer_number.f k s) (numL (lst s)) := by
  obtain ⟨w, p, b, hc, hw, hp, hb⟩ := cut_f s hs
  have hlw : (lst w).length = w.size := lst_length w
  have hlp : (lst p).length = p.size := lst_length p
  have hle : w.size + p.size ≤ 1000000 := by
    rw [← hlw, ← hlp, hw, hp, List.length_take, List.length_drop, lst_length]; omega
  have e : numL (lst s) = (if lst w = [] ∨ (1 < (lst w).length ∧ (lst w).head? = some 48) ∨ ((lst s).findIdx (· == 46) < s.size ∧ (lst p = [] ∨ 3 < (lst p).length)) then (0, 2) else if (lst w ++ lst p).all isDig = false then (0, 2) else tailL (lst w) (lst p)) := by
    unfold numL tailL
    dsimp only
    rw [← hw, ← hp, lst_length s]
  rw [e]
  unfold lexer_number.f
  refine Ev.val hc ?_
  simp only [gt_iff_lt]
  have h48 : ∀ c : UInt8, (some c = some (48 : UInt8)) ↔ c.toNat = 48 := fun c => byte_eq (by decide)
  by_cases h0 : lst w = []
  · refine Ev.ifp (by rw [toList_lst]; exact h0) ?_
    have := num_j0 w p hle true (by simp)
    rw [if_pos (.inl h0)]
    simpa using this
  · refine Ev.ifn (by rw [toList_lst]; exact h0) ?_
    have hp0 : 0 < w.size := by rw [← hlw]; exact List.length_pos_iff.2 h0
    obtain ⟨c, hc1, hc2⟩ := head_bt hp0
    have tailed : (1 < (lst w).length ∧ (lst w).head? = some 48 → False) → Ev (fun k => if b = true then (if p.toList = ([] : List UInt8) then (lexer_number.j0 k w p true) else (lexer_number.j0 k w p (decide (3 < (p.size : Int))))) else (lexer_number.j0 k w p false))
        (if lst w = [] ∨ (1 < (lst w).length ∧ (lst w).head? = some 48) ∨ ((lst s).findIdx (· == 46) < s.size ∧ (lst p = [] ∨ 3 < (lst p).length)) then (0, 2) else if (lst w ++ lst p).all isDig = false then (0, 2) else tailL (lst w) (lst p)) := by
      intro hz
      by_cases hb1 : (lst s).findIdx (· == 46) < s.size
      · have : b = true := by rw [hb]; simp [hb1]
        subst this
        refine Ev.ifp rfl ?_
        by_cases hpn : lst p = []
        · refine Ev.ifp (by rw [toList_lst]; exact hpn) ?_
          rw [if_pos (.inr (.inr ⟨hb1, .inl hpn⟩))]
          simpa using num_j0 w p hle true (by simp)
        · refine Ev.ifn (by rw [toList_lst]; exact hpn) ?_
          by_cases h3 : 3 < p.size
          · rw [if_pos (.inr (.inr ⟨hb1, .inr (by omega)⟩))]
            have : (decide (3 < (p.size : Int))) = true := by simp; omega
            rw [this]
            simpa using num_j0 w p hle true (by simp)
          · rw [if_neg (by rintro (h | h | h); exact h0 h; exact hz h; rcases h.2 with h | h; exact hpn h; omega)]
            have : (decide (3 < (p.size : Int))) = false := by simp; omega
            rw [this]
            have hj := num_j0 w p hle false (fun _ => h0)
            by_cases ha : (lst w ++ lst p).all isDig = true
            · simpa [ha] using hj
            · rw [Bool.not_eq_true] at ha; simpa [ha] using hj
      · have : b = false := by rw [hb]; simp [hb1]
        subst this
        refine Ev.ifn (by simp) ?_
        rw [if_neg (by rintro (h | h | h); exact h0 h; exact hz h; exact hb1 h.1)]
        have hj := num_j0 w p hle false (fun _ => h0)
        by_cases ha : (lst w ++ lst p).all isDig = true
        · simpa [ha] using hj
        · rw [Bool.not_eq_true] at ha; simpa [ha] using hj
    by_cases h1 : 1 < w.size
    · refine Ev.ifp (by omega) (Ev.ifp (by omega) ?_)
      rw [hc2]
      by_cases hz : c.toNat = 48
      · refine Ev.ifp (by omega) ?_
        rw [if_pos (.inr (.inl ⟨by omega, by rw [hc1, h48]; exact hz⟩))]
        simpa using num_j0 w p hle true (by simp)
      · refine Ev.ifn (by omega) ?_
        exact tailed (fun h => hz (by have := h.2; rwa [hc1, h48] at this))
    · refine Ev.ifn (by omega) ?_
      exact tailed (fun h => h1 (by omega))
end Go.Proofs.YtkifdadhojbohaaDoor.Pu
namespace Go.Proofs.YtkifdadhojbohaaDoor.Pr
open Go.Proofs.YtkifdadhojbohaaDoor
open Go.RowKit Go.Proofs.YtkifdadhojbohaaDoorW.PrintWords Go.Proofs.YtkifdadhojbohaaDoorW.PrintLast Go.Proofs.YtkifdadhojbohaaDoorW.PrintMore
attribute [local go_sem] max2_int min2_int max_two min_two max_three min_three max_four min_four   -- for this text's walks alone
set_option linter.unusedVariables false
set_option linter.unusedSimpArgs false
/-! ### lexer_Lex: function 25 -/
def lexer_Lex.l0 : Nat → ByteArray → List (S46) → Int → Option ((List (S46)) × Int × Int)
  | 0, _, _, _ => none
  | k + 1, x0, x4, x5 => (lexer_next.f k x0 x5).bind fun bt137 => (if bt137.2.2.2.2.2.1 = 0 then (if x4.length < 3518437208883 then ((some (x4 ++ [(⟨bt137.1, bt137.2.1, bt137.2.2.1, bt137.2.2.2.1⟩ : S46)] : List (S46))).bind fun y146 => (if bt137.1 = 5 then (some (y146, 0, 0)) else (lexer_Lex.l0 k x0 y146 bt137.2.2.2.2.1))) else (none)) else (some (([] : List (S46)), bt137.2.2.2.2.2.1, bt137.2.2.2.2.2.2)))
def lexer_Lex.f (k : Nat) (a0 : ByteArray) : Option ((List (S46)) × Int × Int) := if (a0.size : Int) > 65536 then (some (([] : List (S46)), 6, 65536)) else (lexer_Lex.l0 k a0 ([] : List (S46)) 0)
theorem lexer_Lex.mono_l : ∀ k, (∀ y0 y1 y2, LeO (lexer_Lex.l0 k y0 y1 y2) (lexer_Lex.l0 (k + 1) y0 y1 y2))
  | 0 => fun _ _ _ r h => by simp [lexer_Lex.l0] at h
  | k + 1 => by
    have ih0 := lexer_Lex.mono_l k
    · intro y0 y1 y2
      unfold lexer_Lex.l0
      repeat' first
      | (with_reducible exact ih0 _ _ _)
      | (with_reducible exact lexer_next.mono _ _ _)
      | (with_reducible exact LeO.refl _)
      | (with_reducible exact LeO.none _)
      | (with_reducible refine LeO.ite ?_ ?_)
      | (with_reducible refine LeO.bind ?_ (fun _ => ?_))
      | exact ih0 _ _ _
      | exact lexer_next.mono _ _ _
      | exact LeO.none _
      | refine LeO.ite ?_ ?_
      | refine LeO.bind ?_ (fun _ => ?_)
theorem lexer_Lex.mono : ∀ a0 k, LeO (lexer_Lex.f k a0) (lexer_Lex.f (k + 1) a0) := by
  intro a0 k
  have ih0 := lexer_Lex.mono_l k
  unfold lexer_Lex.f
  repeat' first
      | (with_reducible exact ih0 _ _ _)
      | (with_reducible exact lexer_next.mono _ _ _)
      | (with_reducible exact LeO.refl _)
      | (with_reducible exact LeO.none _)
      | (with_reducible refine LeO.ite ?_ ?_)
      | (with_reducible refine LeO.bind ?_ (fun _ => ?_))
      | exact ih0 _ _ _
      | exact lexer_next.mono _ _ _
      | exact LeO.none _
      | refine LeO.ite ?_ ?_
      | refine LeO.bind ?_ (fun _ => ?_)
set_option maxHeartbeats 8000000 in
set_option maxRecDepth 100000 in
theorem lexer_Lex.calls (k : Nat) (a0 : ByteArray) (r1 : List (S46)) (r2 : Int) (r3 : Int) (w : World) (h : lexer_Lex.f k a0 = some (r1, r2, r3)) :
    Calls Tryd.prog 25 #[.string a0] w fun e w' => ∃ v0_ : Value, e = .returned (.tuple #[v0_, .agg #[.int .i64 r2, .int .i64 r3]]) ∧ Kd.R k46 46 w' w.heap.size (fun _ => True) v0_ r1 ∧ Below w.heap.size w w' := by
  have hu26 := Tryd.underlying26
  have hu46 := Tryd.underlying46
  have HB := Aside0.mk (Below.refl w.heap.size w)
  have H : (if (a0.size : Int) > 65536 then (some (([] : List (S46)), 6, 65536)) else (lexer_Lex.l0 k a0 ([] : List (S46)) 0)) = some (r1, r2, r3) := h
  clear h
  by_cases c2 : (a0.size : Int) > 65536
  · rw [if_pos c2] at H
    have c2b0 : decide (65536 < (a0.size : Int)) = true := decide_eq_true c2
    have c2b1 : decide (65536 < a0.size) = true := decide_eq_true (by omega)
    clear c2
    simp only [Option.some.injEq, Prod.mk.injEq] at H
    obtain ⟨rfl, rfl, rfl⟩ := H
    go_enter Tryd.func25, Tryd.ntmps25
    go_wp2_with (first | ((with_reducible refine gate_dst (N := 3) rfl ?_); refine box_event ?hg (N := 3) ?hd (cs := #[.int .i64 0, .int .i64 0]) (t := 26) ?hr ?_; (case hd => rfl); (case hg => rfl); (case hr => first | (go_simp; done) | (go_simp; rfl)); intro gb136 hg w3 hbox hb; have n0_ := Aside0.mk (below_step (bl_ HB.out) hb); have n1_ := Aside0.mk (hbox); have n2_ := Aside0.mk ((by rw [hg]; exact (below_size (bl_ HB.out)) : w.heap.size ≤ gb136)); have n3_ := Aside0.mk ((by rw [hg]; exact (below_size (bl_ HB.out)) : w.heap.size ≤ gb136)); clear HB; have HB := n0_; have BK136 := n1_; have GW136 := n2_; have GE136 := n3_; clear n0_ n1_ n2_ n3_; clear hb hbox hg; have hcz4_0 : w3.cell? ⟨gb136, 0, none⟩ = some (.int .i64 0) := (blk_cell BK136.out 0).trans rfl; have hcz4_1 : w3.cell? ⟨gb136, 1, none⟩ = some (.int .i64 0) := (blk_cell BK136.out 1).trans rfl; have hfz4_0 := blk_frozen BK136.out 0; have hfz4_1 := blk_frozen BK136.out 1))
    iterate 3 (try (go_step3; (try go_wp2_with (first | ((with_reducible refine gate_dst (N := 3) rfl ?_); refine box_event ?hg (N := 3) ?hd (cs := #[.int .i64 0, .int .i64 0]) (t := 26) ?hr ?_; (case hd => rfl); (case hg => rfl); (case hr => first | (go_simp; done) | (go_simp; rfl)); intro gb136 hg w3 hbox hb; have n0_ := Aside0.mk (below_step (bl_ HB.out) hb); have n1_ := Aside0.mk (hbox); have n2_ := Aside0.mk ((by rw [hg]; exact (below_size (bl_ HB.out)) : w.heap.size ≤ gb136)); have n3_ := Aside0.mk ((by rw [hg]; exact (below_size (bl_ HB.out)) : w.heap.size ≤ gb136)); clear HB; have HB := n0_; have BK136 := n1_; have GW136 := n2_; have GE136 := n3_; clear n0_ n1_ n2_ n3_; clear hb hbox hg; have hcz4_0 : w3.cell? ⟨gb136, 0, none⟩ = some (.int .i64 0) := (blk_cell BK136.out 0).trans rfl; have hcz4_1 : w3.cell? ⟨gb136, 1, none⟩ = some (.int .i64 0) := (blk_cell BK136.out 1).trans rfl; have hfz4_0 := blk_frozen BK136.out 0; have hfz4_1 := blk_frozen BK136.out 1)))))
    (try rw [Exit.noGoto_ret])
    refine bodyPost_ret (results_tc rfl _ _ gb136 26 #[.int .i64 6, .int .i64 65536] (0, 0) _ rfl (by (with_reducible repeat (first | refine blk_drewN ?_ _ | refine blk_drew ?_ | refine blk_alloc ?_ _)); refine blk_put (cs := #[.int .i64 6, .int .i64 0]) ?_ 1 _ rfl; (with_reducible repeat (first | refine blk_drewN ?_ _ | refine blk_drew ?_ | refine blk_alloc ?_ _)); refine blk_put (cs := #[.int .i64 0, .int .i64 0]) ?_ 0 _ rfl; (with_reducible repeat (first | refine blk_drewN ?_ _ | refine blk_drew ?_ | refine blk_alloc ?_ _)); exact BK136.out) Tryd.underlying26 rfl (by kernel_rfl)) rfl ?_
    exact ⟨_, er_, by first | exact Kd.R_nil _ _ _ _ _ | exact Kd.N_nil _ _ _ _ _ | exact Kd.V_nil _ _ _ _ _ | exact Kd.Q_nil _ _ _ _ _ | exact Kd.S_nil _ _ _ _ _, bl1_ HB.out GE136.out⟩
  · rw [if_neg c2] at H
    have c2b0 : decide (65536 < (a0.size : Int)) = false := decide_eq_false c2
    have c2b1 : decide (65536 < a0.size) = false := decide_eq_false (by omega)
    clear c2
    have H' := Aside0.mk H
    clear H
    go_enter Tryd.func25, Tryd.ntmps25
    go_wp2_with (first | ((with_reducible refine gate_dst (N := 3) rfl ?_); refine box_event ?hg (N := 3) ?hd (cs := #[.int .i64 0, .int .i64 0]) (t := 26) ?hr ?_; (case hd => rfl); (case hg => rfl); (case hr => first | (go_simp; done) | (go_simp; rfl)); intro gb136 hg w5 hbox hb; have n0_ := Aside0.mk (below_step (bl_ HB.out) hb); have n1_ := Aside0.mk (hbox); have n2_ := Aside0.mk ((by rw [hg]; exact (below_size (bl_ HB.out)) : w.heap.size ≤ gb136)); have n3_ := Aside0.mk ((by rw [hg]; exact (below_size (bl_ HB.out)) : w.heap.size ≤ gb136)); clear HB; have HB := n0_; have BK136 := n1_; have GW136 := n2_; have GE136 := n3_; clear n0_ n1_ n2_ n3_; clear hb hbox hg))
    iterate 3 (try (go_step3; (try go_wp2_with (first | ((with_reducible refine gate_dst (N := 3) rfl ?_); refine box_event ?hg (N := 3) ?hd (cs := #[.int .i64 0, .int .i64 0]) (t := 26) ?hr ?_; (case hd => rfl); (case hg => rfl); (case hr => first | (go_simp; done) | (go_simp; rfl)); intro gb136 hg w5 hbox hb; have n0_ := Aside0.mk (below_step (bl_ HB.out) hb); have n1_ := Aside0.mk (hbox); have n2_ := Aside0.mk ((by rw [hg]; exact (below_size (bl_ HB.out)) : w.heap.size ≤ gb136)); have n3_ := Aside0.mk ((by rw [hg]; exact (below_size (bl_ HB.out)) : w.heap.size ≤ gb136)); clear HB; have HB := n0_; have BK136 := n1_; have GW136 := n2_; have GE136 := n3_; clear n0_ n1_ n2_ n3_; clear hb hbox hg)))))
    go_loopg [4, 5] k (fun kq v4 v5 w' => ∃ (x4_1 : List (S46)) (x5_1 : Int) (x137000_1 : Int) (x137001_1 : Int), v5 = .int .i64 x5_1 ∧ Aside0 (lexer_Lex.l0 kq a0 x4_1 x5_1 = some (r1, r2, r3)) ∧ Aside0 (kq ≤ k) ∧ Aside0 (Kd.R k46 46 w' w.heap.size (fun _ => True) v4 x4_1) ∧ Aside0 (w'.heap[gb136]? = some (.cells #[.int .i64 x137000_1, .int .i64 x137001_1] 26 (0, 0))) ∧ Aside0 (Below w.heap.size w w'))
    case atStart => exact ⟨(([] : List (S46))), (0), (0), (0), (by first | rfl | (simp; done) | (simp [*]; done) | (simp <;> rfl)), H', ⟨Nat.le_refl _⟩, ⟨by first | exact Kd.R_nil _ _ _ _ _ | exact Kd.N_nil _ _ _ _ _ | exact Kd.V_nil _ _ _ _ _ | exact Kd.Q_nil _ _ _ _ _ | exact Kd.S_nil _ _ _ _ _⟩, ⟨by (with_reducible repeat (first | refine blk_drewN ?_ _ | refine blk_drew ?_ | refine blk_alloc ?_ _)); exact BK136.out⟩, ⟨bl1_ HB.out GE136.out⟩⟩
    case round =>
      clear H'
      try clear c2
      try clear c2b0
      try clear c2b1
      try clear p2
      try clear p3
      try clear hcz4_0
      try clear hcz4_1
      try clear hfz4_0
      try clear hfz4_1
      obtain ⟨x4_1, x5_1, x137000_1, x137001_1, rfl, HA, HK1, HO_4, BK136, HB⟩ := hrel
      cases gk with
      | zero => exact absurd HA.out (by simp [lexer_Lex.l0])
      | succ k1 =>
        have H := HA.out
        clear HA
        simp only [lexer_Lex.l0] at H
        replace H := Option.bind_eq_some_iff.mp H
        obtain ⟨⟨t137, t138, t139, t140, t141, t142, t143⟩, A60, H⟩ := H
        replace H : (if t142 = 0 then (if x4_1.length < 3518437208883 then ((some (x4_1 ++ [(⟨t137, t138, t139, t140⟩ : S46)] : List (S46))).bind fun y146 => (if t137 = 5 then (some (y146, 0, 0)) else (lexer_Lex.l0 k1 a0 y146 t141))) else (none)) else (some (([] : List (S46)), t142, t143))) = some (r1, r2, r3) := H
        have A6 := Aside0.mk A60
        clear A60
        by_cases c7 : t142 = 0
        · rw [if_pos c7] at H
          have c7b0 : (t142 == 0) = true := beq_iff_eq.mpr c7
          have c7b1 : (t142 != 0) = false := bne_eq_false_iff_eq.mpr c7
          clear c7
          by_cases c8 : x4_1.length < 3518437208883
          · rw [if_pos c8] at H
            have LMc8 := Aside0.mk c8
            clear c8
            obtain ⟨y146, hy146⟩ : ∃ y_ : List (S46), y_ = (x4_1 ++ [(⟨t137, t138, t139, t140⟩ : S46)]) := ⟨_, rfl⟩
            replace H : (if t137 = 5 then (some (y146, 0, 0)) else (lexer_Lex.l0 k1 a0 y146 t141)) = some (r1, r2, r3) := by first | (rw [hy146]; with_reducible exact H) | (have H2_ := (Option.bind_some _ _).symm.trans H; rw [hy146]; with_reducible exact H2_) | (have H2_ := (Option.bind_some _ _).symm.trans H; with_reducible exact H2_) | with_reducible exact H | (rw [hy146]; exact H) | exact H
            have Ny146 := Aside0.mk hy146
            clear hy146
            by_cases c9 : t137 = 5
            · rw [if_pos c9] at H
              have c9b0 : (t137 == 5) = true := beq_iff_eq.mpr c9
              have c9b1 : (t137 != 5) = false := bne_eq_false_iff_eq.mpr c9
              clear c9
              simp only [Option.some.injEq, Prod.mk.injEq] at H
              obtain ⟨rfl, rfl, rfl⟩ := H
              go_wp2_with (first | ((with_reducible refine gate_callee (f := 55) rfl ?_); refine goesL_ (some 16) rfl rfl Tryd.func55 (by kernel_rfl) rfl #[.string a0, .int .i64 x5_1] rfl (by (try simp only [List.map_toArray, List.map_cons, List.map_nil]); first | done | rfl | (simp only [List.length_drop, List.length_take]; rfl)) ?_; (with_reducible refine (lexer_next.calls k1 a0 x5_1 t137 t138 t139 t140 t141 t142 t143 _ A6.out).mono ?_); rintro e w10 ⟨rfl, hb⟩; refine ⟨_, rfl, ?_⟩; have n0_ := Aside0.mk (Kd.R_below (by (with_reducible repeat (first | apply Kd.R_alloc | apply Kd.R_drewN | apply Kd.R_drew)); exact HO_4.out) hb); have n1_ := Aside0.mk (blk_below (g := gb136) (o := .cells #[.int .i64 x137000_1, .int .i64 x137001_1] 26 (0, 0)) (bk_ BK136.out) hb); have n2_ := Aside0.mk (below_step (bl1_ HB.out GE136.out) hb); clear HO_4; clear BK136; clear HB; have HO_4 := n0_; have BK136 := n1_; have HB := n2_; clear n0_ n1_ n2_; (try clear hb); (try clear hb2); (try clear hk); (try clear hi)) | ((with_reducible refine gate_dst (N := 6) rfl ?_); refine box_event ?hg (N := 6) ?hd (cs := #[.int .i64 0, .string (⟨#[]⟩ : ByteArray), .int .i64 0, .int .i64 0]) (t := 46) ?hr ?_; (case hd => rfl); (case hg => rfl); (case hr => first | (go_simp; done) | (go_simp; rfl)); intro gb144 hg w11 hbox hb; have n0_ := Aside0.mk (Kd.R_below (Kd.R_elderB (by (with_reducible repeat (first | apply Kd.R_alloc | apply Kd.R_drewN | apply Kd.R_drew)); exact HO_4.out) gb144 (Nat.le_of_eq hg.symm)) hb); have n1_ := Aside0.mk (blk_below (g := gb136) (o := .cells #[.int .i64 x137000_1, .int .i64 x137001_1] 26 (0, 0)) (bk_ BK136.out) hb); have n2_ := Aside0.mk (below_step (bl1_ HB.out GE136.out) hb); have n3_ := Aside0.mk (hbox); have n4_ := Aside0.mk ((by rw [hg]; exact (below_size (bl1_ HB.out GE136.out)) : w.heap.size ≤ gb144)); have n5_ := Aside0.mk ((by rw [hg]; exact (below_size (bl1_ HB.out GE136.out)) : w.heap.size ≤ gb144)); have n6_ := Aside0.mk ((by rw [hg]; exact Nat.ne_of_lt (blk_lt (g := gb136) (o := .cells #[.int .i64 x137000_1, .int .i64 x137001_1] 26 (0, 0)) (bk_ BK136.out)) : gb136 ≠ gb144)); have n7_ := Aside0.mk ((by rw [hg]; exact Nat.ne_of_gt (blk_lt (g := gb136) (o := .cells #[.int .i64 x137000_1, .int .i64 x137001_1] 26 (0, 0)) (bk_ BK136.out)) : gb144 ≠ gb136)); clear HO_4; clear BK136; clear HB; have HO_4 := n0_; have BK136 := n1_; have HB := n2_; have BK144 := n3_; have GW144 := n4_; have GE144 := n5_; have NB136_144 := n6_; have NB144_136 := n7_; clear n0_ n1_ n2_ n3_ n4_ n5_ n6_ n7_; clear hb hbox hg) | ((with_reducible refine gate_dst (N := 8) rfl ?_); refine box_event ?hg (N := 8) ?hd (cs := #[.int .i64 0, .int .i64 0]) (t := 26) ?hr ?_; (case hd => rfl); (case hg => rfl); (case hr => first | (go_simp; done) | (go_simp; rfl)); intro gb145 hg w12 hbox hb; have n0_ := Aside0.mk (Kd.R_below (by (with_reducible repeat (first | apply Kd.R_alloc | apply Kd.R_drewN | apply Kd.R_drew)); exact HO_4.out) hb); have n1_ := Aside0.mk (blk_below (g := gb136) (o := .cells #[.int .i64 x137000_1, .int .i64 x137001_1] 26 (0, 0)) (bk_ BK136.out) hb); have n2_ := Aside0.mk (blk_below (g := gb144) (o := .cells #[.int .i64 0, .string (⟨#[]⟩ : ByteArray), .int .i64 0, .int .i64 0] 46 (0, 0)) (bk_ BK144.out) hb); have n3_ := Aside0.mk (below_step (bl2_ HB.out GE136.out GE144.out) hb); have n4_ := Aside0.mk (hbox); have n5_ := Aside0.mk ((by rw [hg]; exact (below_size (bl2_ HB.out GE136.out GE144.out)) : w.heap.size ≤ gb145)); have n6_ := Aside0.mk ((by rw [hg]; exact (below_size (bl2_ HB.out GE136.out GE144.out)) : w.heap.size ≤ gb145)); have n7_ := Aside0.mk ((by rw [hg]; exact Nat.ne_of_lt (blk_lt (g := gb136) (o := .cells #[.int .i64 x137000_1, .int .i64 x137001_1] 26 (0, 0)) (bk_ BK136.out)) : gb136 ≠ gb145)); have n8_ := Aside0.mk ((by rw [hg]; exact Nat.ne_of_gt (blk_lt (g := gb136) (o := .cells #[.int .i64 x137000_1, .int .i64 x137001_1] 26 (0, 0)) (bk_ BK136.out)) : gb145 ≠ gb136)); have n9_ := Aside0.mk ((by rw [hg]; exact Nat.ne_of_lt (blk_lt (g := gb144) (o := .cells #[.int .i64 0, .string (⟨#[]⟩ : ByteArray), .int .i64 0, .int .i64 0] 46 (0, 0)) (bk_ BK144.out)) : gb144 ≠ gb145)); have n10_ := Aside0.mk ((by rw [hg]; exact Nat.ne_of_gt (blk_lt (g := gb144) (o := .cells #[.int .i64 0, .string (⟨#[]⟩ : ByteArray), .int .i64 0, .int .i64 0] 46 (0, 0)) (bk_ BK144.out)) : gb145 ≠ gb144)); clear HO_4; clear BK136; clear BK144; clear HB; have HO_4 := n0_; have BK136 := n1_; have BK144 := n2_; have HB := n3_; have BK145 := n4_; have GW145 := n5_; have GE145 := n6_; have NB136_145 := n7_; have NB145_136 := n8_; have NB144_145 := n9_; have NB145_144 := n10_; clear n0_ n1_ n2_ n3_ n4_ n5_ n6_ n7_ n8_ n9_ n10_; clear hb hbox hg; have hnb13 := NB144_136.out; have hnc13 := NB136_144.out; have hnb14 := NB144_145.out; have hnc14 := NB145_144.out; have hcz15_0 : w12.cell? ⟨gb144, 0, none⟩ = some (.int .i64 0) := (blk_cell BK144.out 0).trans rfl; have hcz15_1 : w12.cell? ⟨gb144, 1, none⟩ = some (.string (⟨#[]⟩ : ByteArray)) := (blk_cell BK144.out 1).trans rfl; have hcz15_2 : w12.cell? ⟨gb144, 2, none⟩ = some (.int .i64 0) := (blk_cell BK144.out 2).trans rfl; have hcz15_3 : w12.cell? ⟨gb144, 3, none⟩ = some (.int .i64 0) := (blk_cell BK144.out 3).trans rfl; have hfz15_0 := blk_frozen BK144.out 0; have hfz15_1 := blk_frozen BK144.out 1; have hfz15_2 := blk_frozen BK144.out 2; have hfz15_3 := blk_frozen BK144.out 3; have hnb16 := NB145_136.out; have hnc16 := NB136_145.out; have hcz17_0 : w12.cell? ⟨gb145, 0, none⟩ = some (.int .i64 0) := (blk_cell BK145.out 0).trans rfl; have hcz17_1 : w12.cell? ⟨gb145, 1, none⟩ = some (.int .i64 0) := (blk_cell BK145.out 1).trans rfl; have hfz17_0 := blk_frozen BK145.out 0; have hfz17_1 := blk_frozen BK145.out 1) | ((with_reducible refine gate_builtin (b := .append) (xs := #[.tmp 24, .tmp 26]) rfl ?_); at_builtin; refine Kd.R_append k46 (w0 := w) w.heap.size rfl (.tmp 24) (.tmp 26) 31 46 (.agg #[(.int .i64 0), (.string ⟨#[]⟩), (.int .i64 0), (.int .i64 0)]) 40 rfl Tryd.underlying31 info46 rfl (by decide) (by omega) u4 x4_1 (⟨t137, t138, t139, t140⟩ : S46) [.int .i64 t137, .string t138, .int .i64 t139, .int .i64 t140] (fun k_ => k_ ≠ gb144) (fun _ => False) rfl (by first | (go_simp; done) | (go_simp; rfl)) ?aP (fun _ hk => hk.elim) ?aF ?aO ?aB ?aS ?aL ?_; (case aP => exact k46_mkM _ _ _ (⟨t137, t138, t139, t140⟩ : S46)); (case aB => exact (bl3_ HB.out GE136.out GE144.out GE145.out)); (case aF => exact (fun k_ hk => Kd.freshB (g := gb144) (o := .cells #[.int .i64 t137, .string t138, .int .i64 t139, .int .i64 t140] 46 (0, 0)) (by (with_reducible repeat (first | refine blk_drewN ?_ _ | refine blk_drew ?_ | refine blk_alloc ?_ _)); refine blk_far ?_ NB144_145.out _; (with_reducible repeat (first | refine blk_drewN ?_ _ | refine blk_drew ?_ | refine blk_alloc ?_ _)); refine blk_far ?_ NB144_145.out _; (with_reducible repeat (first | refine blk_drewN ?_ _ | refine blk_drew ?_ | refine blk_alloc ?_ _)); refine blk_put (cs := #[.int .i64 t137, .string t138, .int .i64 t139, .int .i64 0]) ?_ 3 _ rfl; (with_reducible repeat (first | refine blk_drewN ?_ _ | refine blk_drew ?_ | refine blk_alloc ?_ _)); refine blk_put (cs := #[.int .i64 t137, .string t138, .int .i64 0, .int .i64 0]) ?_ 2 _ rfl; (with_reducible repeat (first | refine blk_drewN ?_ _ | refine blk_drew ?_ | refine blk_alloc ?_ _)); refine blk_put (cs := #[.int .i64 t137, .string (⟨#[]⟩ : ByteArray), .int .i64 0, .int .i64 0]) ?_ 1 _ rfl; (with_reducible repeat (first | refine blk_drewN ?_ _ | refine blk_drew ?_ | refine blk_alloc ?_ _)); refine blk_put (cs := #[.int .i64 0, .string (⟨#[]⟩ : ByteArray), .int .i64 0, .int .i64 0]) ?_ 0 _ rfl; (with_reducible repeat (first | refine blk_drewN ?_ _ | refine blk_drew ?_ | refine blk_alloc ?_ _)); exact BK144.out) k_ hk)); (case aO => exact (by (with_reducible repeat (first | apply Kd.R_alloc | apply Kd.R_drewN | apply Kd.R_drew)); exact Kd.R_mono (Kd.R_far (p := ⟨gb145, 1, none⟩) (Kd.R_far (p := ⟨gb145, 0, none⟩) (Kd.R_far (p := ⟨gb144, 3, none⟩) (Kd.R_far (p := ⟨gb144, 2, none⟩) (Kd.R_far (p := ⟨gb144, 1, none⟩) (Kd.R_far (p := ⟨gb144, 0, none⟩) (Kd.R_types (Kd.R_mono HO_4.out (fun k_ hk => (⟨hk, hk.2⟩ : _ ∧ k_ ≠ gb144))) BK145.out (by decide)) (fun _ hk => hk.1.2) (.int .i64 t137)) (fun _ hk => hk.1.2) (.string t138)) (fun _ hk => hk.1.2) (.int .i64 t139)) (fun _ hk => hk.1.2) (.int .i64 t140)) (fun _ hk => hk.2) (.int .i64 t142)) (fun _ hk => hk.2) (.int .i64 t143)) (fun _ hk => hk.1.1.2))); (case aS => exact (below_size (bl3_ HB.out GE136.out GE144.out GE145.out))); (case aL => have := LMc8.out; omega); intro v147 w18 ho hb hg hat; rw [← Ny146.out] at ho; have n0_ := Aside0.mk (blk_grown (g := gb136) (o := .cells #[.int .i64 x137000_1, .int .i64 x137001_1] 26 (0, 0)) (by (with_reducible repeat (first | refine blk_drewN ?_ _ | refine blk_drew ?_ | refine blk_alloc ?_ _)); refine blk_far ?_ NB136_145.out _; (with_reducible repeat (first | refine blk_drewN ?_ _ | refine blk_drew ?_ | refine blk_alloc ?_ _)); refine blk_far ?_ NB136_145.out _; (with_reducible repeat (first | refine blk_drewN ?_ _ | refine blk_drew ?_ | refine blk_alloc ?_ _)); refine blk_far ?_ NB136_144.out _; (with_reducible repeat (first | refine blk_drewN ?_ _ | refine blk_drew ?_ | refine blk_alloc ?_ _)); refine blk_far ?_ NB136_144.out _; (with_reducible repeat (first | refine blk_drewN ?_ _ | refine blk_drew ?_ | refine blk_alloc ?_ _)); refine blk_far ?_ NB136_144.out _; (with_reducible repeat (first | refine blk_drewN ?_ _ | refine blk_drew ?_ | refine blk_alloc ?_ _)); refine blk_far ?_ NB136_144.out _; (with_reducible repeat (first | refine blk_drewN ?_ _ | refine blk_drew ?_ | refine blk_alloc ?_ _)); exact BK136.out) hg (Kd.R_ne HO_4.out BK136.out (by decide))); have n1_ := Aside0.mk (blk_grown (g := gb144) (o := .cells #[.int .i64 t137, .string t138, .int .i64 t139, .int .i64 t140] 46 (0, 0)) (by (with_reducible repeat (first | refine blk_drewN ?_ _ | refine blk_drew ?_ | refine blk_alloc ?_ _)); refine blk_far ?_ NB144_145.out _; (with_reducible repeat (first | refine blk_drewN ?_ _ | refine blk_drew ?_ | refine blk_alloc ?_ _)); refine blk_far ?_ NB144_145.out _; (with_reducible repeat (first | refine blk_drewN ?_ _ | refine blk_drew ?_ | refine blk_alloc ?_ _)); refine blk_put (cs := #[.int .i64 t137, .string t138, .int .i64 t139, .int .i64 0]) ?_ 3 _ rfl; (with_reducible repeat (first | refine blk_drewN ?_ _ | refine blk_drew ?_ | refine blk_alloc ?_ _)); refine blk_put (cs := #[.int .i64 t137, .string t138, .int .i64 0, .int .i64 0]) ?_ 2 _ rfl; (with_reducible repeat (first | refine blk_drewN ?_ _ | refine blk_drew ?_ | refine blk_alloc ?_ _)); refine blk_put (cs := #[.int .i64 t137, .string (⟨#[]⟩ : ByteArray), .int .i64 0, .int .i64 0]) ?_ 1 _ rfl; (with_reducible repeat (first | refine blk_drewN ?_ _ | refine blk_drew ?_ | refine blk_alloc ?_ _)); refine blk_put (cs := #[.int .i64 0, .string (⟨#[]⟩ : ByteArray), .int .i64 0, .int .i64 0]) ?_ 0 _ rfl; (with_reducible repeat (first | refine blk_drewN ?_ _ | refine blk_drew ?_ | refine blk_alloc ?_ _)); exact BK144.out) hg (Kd.R_away HO_4.out (fun _ hk => hk.2))); have n2_ := Aside0.mk (blk_grown (g := gb145) (o := .cells #[.int .i64 t142, .int .i64 t143] 26 (0, 0)) (by (with_reducible repeat (first | refine blk_drewN ?_ _ | refine blk_drew ?_ | refine blk_alloc ?_ _)); refine blk_put (cs := #[.int .i64 t142, .int .i64 0]) ?_ 1 _ rfl; (with_reducible repeat (first | refine blk_drewN ?_ _ | refine blk_drew ?_ | refine blk_alloc ?_ _)); refine blk_put (cs := #[.int .i64 0, .int .i64 0]) ?_ 0 _ rfl; (with_reducible repeat (first | refine blk_drewN ?_ _ | refine blk_drew ?_ | refine blk_alloc ?_ _)); refine blk_far ?_ NB145_144.out _; (with_reducible repeat (first | refine blk_drewN ?_ _ | refine blk_drew ?_ | refine blk_alloc ?_ _)); refine blk_far ?_ NB145_144.out _; (with_reducible repeat (first | refine blk_drewN ?_ _ | refine blk_drew ?_ | refine blk_alloc ?_ _)); refine blk_far ?_ NB145_144.out _; (with_reducible repeat (first | refine blk_drewN ?_ _ | refine blk_drew ?_ | refine blk_alloc ?_ _)); refine blk_far ?_ NB145_144.out _; (with_reducible repeat (first | refine blk_drewN ?_ _ | refine blk_drew ?_ | refine blk_alloc ?_ _)); exact BK145.out) hg (Kd.R_ne HO_4.out BK145.out (by decide))); have n3_ := Aside0.mk (hb); have n4_ := Aside0.mk (ho); clear BK136; clear BK144; clear BK145; clear HB; clear HO_4; have BK136 := n0_; have BK144 := n1_; have BK145 := n2_; have HB := n3_; have HO148 := n4_; clear n0_ n1_ n2_ n3_ n4_; clear ho hb hg hat; have hcz19_0 : w18.cell? ⟨gb144, 0, none⟩ = some (.int .i64 t137) := (blk_cell BK144.out 0).trans rfl; have hcz19_1 : w18.cell? ⟨gb144, 1, none⟩ = some (.string t138) := (blk_cell BK144.out 1).trans rfl; have hcz19_2 : w18.cell? ⟨gb144, 2, none⟩ = some (.int .i64 t139) := (blk_cell BK144.out 2).trans rfl; have hcz19_3 : w18.cell? ⟨gb144, 3, none⟩ = some (.int .i64 t140) := (blk_cell BK144.out 3).trans rfl; have hfz19_0 := blk_frozen BK144.out 0; have hfz19_1 := blk_frozen BK144.out 1; have hfz19_2 := blk_frozen BK144.out 2; have hfz19_3 := blk_frozen BK144.out 3; have hcz20_0 : w18.cell? ⟨gb136, 0, none⟩ = some (.int .i64 x137000_1) := (blk_cell BK136.out 0).trans rfl; have hcz20_1 : w18.cell? ⟨gb136, 1, none⟩ = some (.int .i64 x137001_1) := (blk_cell BK136.out 1).trans rfl; have hfz20_0 := blk_frozen BK136.out 0; have hfz20_1 := blk_frozen BK136.out 1))
              iterate 3 (try (go_step3; (try go_wp2_with (first | ((with_reducible refine gate_callee (f := 55) rfl ?_); refine goesL_ (some 16) rfl rfl Tryd.func55 (by kernel_rfl) rfl #[.string a0, .int .i64 x5_1] rfl (by (try simp only [List.map_toArray, List.map_cons, List.map_nil]); first | done | rfl | (simp only [List.length_drop, List.length_take]; rfl)) ?_; (with_reducible refine (lexer_next.calls k1 a0 x5_1 t137 t138 t139 t140 t141 t142 t143 _ A6.out).mono ?_); rintro e w10 ⟨rfl, hb⟩; refine ⟨_, rfl, ?_⟩; have n0_ := Aside0.mk (Kd.R_below (by (with_reducible repeat (first | apply Kd.R_alloc | apply Kd.R_drewN | apply Kd.R_drew)); exact HO_4.out) hb); have n1_ := Aside0.mk (blk_below (g := gb136) (o := .cells #[.int .i64 x137000_1, .int .i64 x137001_1] 26 (0, 0)) (bk_ BK136.out) hb); have n2_ := Aside0.mk (below_step (bl1_ HB.out GE136.out) hb); clear HO_4; clear BK136; clear HB; have HO_4 := n0_; have BK136 := n1_; have HB := n2_; clear n0_ n1_ n2_; (try clear hb); (try clear hb2); (try clear hk); (try clear hi)) | ((with_reducible refine gate_dst (N := 6) rfl ?_); refine box_event ?hg (N := 6) ?hd (cs := #[.int .i64 0, .string (⟨#[]⟩ : ByteArray), .int .i64 0, .int .i64 0]) (t := 46) ?hr ?_; (case hd => rfl); (case hg => rfl); (case hr => first | (go_simp; done) | (go_simp; rfl)); intro gb144 hg w11 hbox hb; have n0_ := Aside0.mk (Kd.R_below (Kd.R_elderB (by (with_reducible repeat (first | apply Kd.R_alloc | apply Kd.R_drewN | apply Kd.R_drew)); exact HO_4.out) gb144 (Nat.le_of_eq hg.symm)) hb); have n1_ := Aside0.mk (blk_below (g := gb136) (o := .cells #[.int .i64 x137000_1, .int .i64 x137001_1] 26 (0, 0)) (bk_ BK136.out) hb); have n2_ := Aside0.mk (below_step (bl1_ HB.out GE136.out) hb); have n3_ := Aside0.mk (hbox); have n4_ := Aside0.mk ((by rw [hg]; exact (below_size (bl1_ HB.out GE136.out)) : w.heap.size ≤ gb144)); have n5_ := Aside0.mk ((by rw [hg]; exact (below_size (bl1_ HB.out GE136.out)) : w.heap.size ≤ gb144)); have n6_ := Aside0.mk ((by rw [hg]; exact Nat.ne_of_lt (blk_lt (g := gb136) (o := .cells #[.int .i64 x137000_1, .int .i64 x137001_1] 26 (0, 0)) (bk_ BK136.out)) : gb136 ≠ gb144)); have n7_ := Aside0.mk ((by rw [hg]; exact Nat.ne_of_gt (blk_lt (g := gb136) (o := .cells #[.int .i64 x137000_1, .int .i64 x137001_1] 26 (0, 0)) (bk_ BK136.out)) : gb144 ≠ gb136)); clear HO_4; clear BK136; clear HB; have HO_4 := n0_; have BK136 := n1_; have HB := n2_; have BK144 := n3_; have GW144 := n4_; have GE144 := n5_; have NB136_144 := n6_; have NB144_136 := n7_; clear n0_ n1_ n2_ n3_ n4_ n5_ n6_ n7_; clear hb hbox hg) | ((with_reducible refine gate_dst (N := 8) rfl ?_); refine box_event ?hg (N := 8) ?hd (cs := #[.int .i64 0, .int .i64 0]) (t := 26) ?hr ?_; (case hd => rfl); (case hg => rfl); (case hr => first | (go_simp; done) | (go_simp; rfl)); intro gb145 hg w12 hbox hb; have n0_ := Aside0.mk (Kd.R_below (by (with_reducible repeat (first | apply Kd.R_alloc | apply Kd.R_drewN | apply Kd.R_drew)); exact HO_4.out) hb); have n1_ := Aside0.mk (blk_below (g := gb136) (o := .cells #[.int .i64 x137000_1, .int .i64 x137001_1] 26 (0, 0)) (bk_ BK136.out) hb); have n2_ := Aside0.mk (blk_below (g := gb144) (o := .cells #[.int .i64 0, .string (⟨#[]⟩ : ByteArray), .int .i64 0, .int .i64 0] 46 (0, 0)) (bk_ BK144.out) hb); have n3_ := Aside0.mk (below_step (bl2_ HB.out GE136.out GE144.out) hb); have n4_ := Aside0.mk (hbox); have n5_ := Aside0.mk ((by rw [hg]; exact (below_size (bl2_ HB.out GE136.out GE144.out)) : w.heap.size ≤ gb145)); have n6_ := Aside0.mk ((by rw [hg]; exact (below_size (bl2_ HB.out GE136.out GE144.out)) : w.heap.size ≤ gb145)); have n7_ := Aside0.mk ((by rw [hg]; exact Nat.ne_of_lt (blk_lt (g := gb136) (o := .cells #[.int .i64 x137000_1, .int .i64 x137001_1] 26 (0, 0)) (bk_ BK136.out)) : gb136 ≠ gb145)); have n8_ := Aside0.mk ((by rw [hg]; exact Nat.ne_of_gt (blk_lt (g := gb136) (o := .cells #[.int .i64 x137000_1, .int .i64 x137001_1] 26 (0, 0)) (bk_ BK136.out)) : gb145 ≠ gb136)); have n9_ := Aside0.mk ((by rw [hg]; exact Nat.ne_of_lt (blk_lt (g := gb144) (o := .cells #[.int .i64 0, .string (⟨#[]⟩ : ByteArray), .int .i64 0, .int .i64 0] 46 (0, 0)) (bk_ BK144.out)) : gb144 ≠ gb145)); have n10_ := Aside0.mk ((by rw [hg]; exact Nat.ne_of_gt (blk_lt (g := gb144) (o := .cells #[.int .i64 0, .string (⟨#[]⟩ : ByteArray), .int .i64 0, .int .i64 0] 46 (0, 0)) (bk_ BK144.out)) : gb145 ≠ gb144)); clear HO_4; clear BK136; clear BK144; clear HB; have HO_4 := n0_; have BK136 := n1_; have BK144 := n2_; have HB := n3_; have BK145 := n4_; have GW145 := n5_; have GE145 := n6_; have NB136_145 := n7_; have NB145_136 := n8_; have NB144_145 := n9_; have NB145_144 := n10_; clear n0_ n1_ n2_ n3_ n4_ n5_ n6_ n7_ n8_ n9_ n10_; clear hb hbox hg; have hnb13 := NB144_136.out; have hnc13 := NB136_144.out; have hnb14 := NB144_145.out; have hnc14 := NB145_144.out; have hcz15_0 : w12.cell? ⟨gb144, 0, none⟩ = some (.int .i64 0) := (blk_cell BK144.out 0).trans rfl; have hcz15_1 : w12.cell? ⟨gb144, 1, none⟩ = some (.string (⟨#[]⟩ : ByteArray)) := (blk_cell BK144.out 1).trans rfl; have hcz15_2 : w12.cell? ⟨gb144, 2, none⟩ = some (.int .i64 0) := (blk_cell BK144.out 2).trans rfl; have hcz15_3 : w12.cell? ⟨gb144, 3, none⟩ = some (.int .i64 0) := (blk_cell BK144.out 3).trans rfl; have hfz15_0 := blk_frozen BK144.out 0; have hfz15_1 := blk_frozen BK144.out 1; have hfz15_2 := blk_frozen BK144.out 2; have hfz15_3 := blk_frozen BK144.out 3; have hnb16 := NB145_136.out; have hnc16 := NB136_145.out; have hcz17_0 : w12.cell? ⟨gb145, 0, none⟩ = some (.int .i64 0) := (blk_cell BK145.out 0).trans rfl; have hcz17_1 : w12.cell? ⟨gb145, 1, none⟩ = some (.int .i64 0) := (blk_cell BK145.out 1).trans rfl; have hfz17_0 := blk_frozen BK145.out 0; have hfz17_1 := blk_frozen BK145.out 1) | ((with_reducible refine gate_builtin (b := .append) (xs := #[.tmp 24, .tmp 26]) rfl ?_); at_builtin; refine Kd.R_append k46 (w0 := w) w.heap.size rfl (.tmp 24) (.tmp 26) 31 46 (.agg #[(.int .i64 0), (.string ⟨#[]⟩), (.int .i64 0), (.int .i64 0)]) 40 rfl Tryd.underlying31 info46 rfl (by decide) (by omega) u4 x4_1 (⟨t137, t138, t139, t140⟩ : S46) [.int .i64 t137, .string t138, .int .i64 t139, .int .i64 t140] (fun k_ => k_ ≠ gb144) (fun _ => False) rfl (by first | (go_simp; done) | (go_simp; rfl)) ?aP (fun _ hk => hk.elim) ?aF ?aO ?aB ?aS ?aL ?_; (case aP => exact k46_mkM _ _ _ (⟨t137, t138, t139, t140⟩ : S46)); (case aB => exact (bl3_ HB.out GE136.out GE144.out GE145.out)); (case aF => exact (fun k_ hk => Kd.freshB (g := gb144) (o := .cells #[.int .i64 t137, .string t138, .int .i64 t139, .int .i64 t140] 46 (0, 0)) (by (with_reducible repeat (first | refine blk_drewN ?_ _ | refine blk_drew ?_ | refine blk_alloc ?_ _)); refine blk_far ?_ NB144_145.out _; (with_reducible repeat (first | refine blk_drewN ?_ _ | refine blk_drew ?_ | refine blk_alloc ?_ _)); refine blk_far ?_ NB144_145.out _; (with_reducible repeat (first | refine blk_drewN ?_ _ | refine blk_drew ?_ | refine blk_alloc ?_ _)); refine blk_put (cs := #[.int .i64 t137, .string t138, .int .i64 t139, .int .i64 0]) ?_ 3 _ rfl; (with_reducible repeat (first | refine blk_drewN ?_ _ | refine blk_drew ?_ | refine blk_alloc ?_ _)); refine blk_put (cs := #[.int .i64 t137, .string t138, .int .i64 0, .int .i64 0]) ?_ 2 _ rfl; (with_reducible repeat (first | refine blk_drewN ?_ _ | refine blk_drew ?_ | refine blk_alloc ?_ _)); refine blk_put (cs := #[.int .i64 t137, .string (⟨#[]⟩ : ByteArray), .int .i64 0, .int .i64 0]) ?_ 1 _ rfl; (with_reducible repeat (first | refine blk_drewN ?_ _ | refine blk_drew ?_ | refine blk_alloc ?_ _)); refine blk_put (cs := #[.int .i64 0, .string (⟨#[]⟩ : ByteArray), .int .i64 0, .int .i64 0]) ?_ 0 _ rfl; (with_reducible repeat (first | refine blk_drewN ?_ _ | refine blk_drew ?_ | refine blk_alloc ?_ _)); exact BK144.out) k_ hk)); (case aO => exact (by (with_reducible repeat (first | apply Kd.R_alloc | apply Kd.R_drewN | apply Kd.R_drew)); exact Kd.R_mono (Kd.R_far (p := ⟨gb145, 1, none⟩) (Kd.R_far (p := ⟨gb145, 0, none⟩) (Kd.R_far (p := ⟨gb144, 3, none⟩) (Kd.R_far (p := ⟨gb144, 2, none⟩) (Kd.R_far (p := ⟨gb144, 1, none⟩) (Kd.R_far (p := ⟨gb144, 0, none⟩) (Kd.R_types (Kd.R_mono HO_4.out (fun k_ hk => (⟨hk, hk.2⟩ : _ ∧ k_ ≠ gb144))) BK145.out (by decide)) (fun _ hk => hk.1.2) (.int .i64 t137)) (fun _ hk => hk.1.2) (.string t138)) (fun _ hk => hk.1.2) (.int .i64 t139)) (fun _ hk => hk.1.2) (.int .i64 t140)) (fun _ hk => hk.2) (.int .i64 t142)) (fun _ hk => hk.2) (.int .i64 t143)) (fun _ hk => hk.1.1.2))); (case aS => exact (below_size (bl3_ HB.out GE136.out GE144.out GE145.out))); (case aL => have := LMc8.out; omega); intro v147 w18 ho hb hg hat; rw [← Ny146.out] at ho; have n0_ := Aside0.mk (blk_grown (g := gb136) (o := .cells #[.int .i64 x137000_1, .int .i64 x137001_1] 26 (0, 0)) (by (with_reducible repeat (first | refine blk_drewN ?_ _ | refine blk_drew ?_ | refine blk_alloc ?_ _)); refine blk_far ?_ NB136_145.out _; (with_reducible repeat (first | refine blk_drewN ?_ _ | refine blk_drew ?_ | refine blk_alloc ?_ _)); refine blk_far ?_ NB136_145.out _; (with_reducible repeat (first | refine blk_drewN ?_ _ | refine blk_drew ?_ | refine blk_alloc ?_ _)); refine blk_far ?_ NB136_144.out _; (with_reducible repeat (first | refine blk_drewN ?_ _ | refine blk_drew ?_ | refine blk_alloc ?_ _)); refine blk_far ?_ NB136_144.out _; (with_reducible repeat (first | refine blk_drewN ?_ _ | refine blk_drew ?_ | refine blk_alloc ?_ _)); refine blk_far ?_ NB136_144.out _; (with_reducible repeat (first | refine blk_drewN ?_ _ | refine blk_drew ?_ | refine blk_alloc ?_ _)); refine blk_far ?_ NB136_144.out _; (with_reducible repeat (first | refine blk_drewN ?_ _ | refine blk_drew ?_ | refine blk_alloc ?_ _)); exact BK136.out) hg (Kd.R_ne HO_4.out BK136.out (by decide))); have n1_ := Aside0.mk (blk_grown (g := gb144) (o := .cells #[.int .i64 t137, .string t138, .int .i64 t139, .int .i64 t140] 46 (0, 0)) (by (with_reducible repeat (first | refine blk_drewN ?_ _ | refine blk_drew ?_ | refine blk_alloc ?_ _)); refine blk_far ?_ NB144_145.out _; (with_reducible repeat (first | refine blk_drewN ?_ _ | refine blk_drew ?_ | refine blk_alloc ?_ _)); refine blk_far ?_ NB144_145.out _; (with_reducible repeat (first | refine blk_drewN ?_ _ | refine blk_drew ?_ | refine blk_alloc ?_ _)); refine blk_put (cs := #[.int .i64 t137, .string t138, .int .i64 t139, .int .i64 0]) ?_ 3 _ rfl; (with_reducible repeat (first | refine blk_drewN ?_ _ | refine blk_drew ?_ | refine blk_alloc ?_ _)); refine blk_put (cs := #[.int .i64 t137, .string t138, .int .i64 0, .int .i64 0]) ?_ 2 _ rfl; (with_reducible repeat (first | refine blk_drewN ?_ _ | refine blk_drew ?_ | refine blk_alloc ?_ _)); refine blk_put (cs := #[.int .i64 t137, .string (⟨#[]⟩ : ByteArray), .int .i64 0, .int .i64 0]) ?_ 1 _ rfl; (with_reducible repeat (first | refine blk_drewN ?_ _ | refine blk_drew ?_ | refine blk_alloc ?_ _)); refine blk_put (cs := #[.int .i64 0, .string (⟨#[]⟩ : ByteArray), .int .i64 0, .int .i64 0]) ?_ 0 _ rfl; (with_reducible repeat (first | refine blk_drewN ?_ _ | refine blk_drew ?_ | refine blk_alloc ?_ _)); exact BK144.out) hg (Kd.R_away HO_4.out (fun _ hk => hk.2))); have n2_ := Aside0.mk (blk_grown (g := gb145) (o := .cells #[.int .i64 t142, .int .i64 t143] 26 (0, 0)) (by (with_reducible repeat (first | refine blk_drewN ?_ _ | refine blk_drew ?_ | refine blk_alloc ?_ _)); refine blk_put (cs := #[.int .i64 t142, .int .i64 0]) ?_ 1 _ rfl; (with_reducible repeat (first | refine blk_drewN ?_ _ | refine blk_drew ?_ | refine blk_alloc ?_ _)); refine blk_put (cs := #[.int .i64 0, .int .i64 0]) ?_ 0 _ rfl; (with_reducible repeat (first | refine blk_drewN ?_ _ | refine blk_drew ?_ | refine blk_alloc ?_ _)); refine blk_far ?_ NB145_144.out _; (with_reducible repeat (first | refine blk_drewN ?_ _ | refine blk_drew ?_ | refine blk_alloc ?_ _)); refine blk_far ?_ NB145_144.out _; (with_reducible repeat (first | refine blk_drewN ?_ _ | refine blk_drew ?_ | refine blk_alloc ?_ _)); refine blk_far ?_ NB145_144.out _; (with_reducible repeat (first | refine blk_drewN ?_ _ | refine blk_drew ?_ | refine blk_alloc ?_ _)); refine blk_far ?_ NB145_144.out _; (with_reducible repeat (first | refine blk_drewN ?_ _ | refine blk_drew ?_ | refine blk_alloc ?_ _)); exact BK145.out) hg (Kd.R_ne HO_4.out BK145.out (by decide))); have n3_ := Aside0.mk (hb); have n4_ := Aside0.mk (ho); clear BK136; clear BK144; clear BK145; clear HB; clear HO_4; have BK136 := n0_; have BK144 := n1_; have BK145 := n2_; have HB := n3_; have HO148 := n4_; clear n0_ n1_ n2_ n3_ n4_; clear ho hb hg hat; have hcz19_0 : w18.cell? ⟨gb144, 0, none⟩ = some (.int .i64 t137) := (blk_cell BK144.out 0).trans rfl; have hcz19_1 : w18.cell? ⟨gb144, 1, none⟩ = some (.string t138) := (blk_cell BK144.out 1).trans rfl; have hcz19_2 : w18.cell? ⟨gb144, 2, none⟩ = some (.int .i64 t139) := (blk_cell BK144.out 2).trans rfl; have hcz19_3 : w18.cell? ⟨gb144, 3, none⟩ = some (.int .i64 t140) := (blk_cell BK144.out 3).trans rfl; have hfz19_0 := blk_frozen BK144.out 0; have hfz19_1 := blk_frozen BK144.out 1; have hfz19_2 := blk_frozen BK144.out 2; have hfz19_3 := blk_frozen BK144.out 3; have hcz20_0 : w18.cell? ⟨gb136, 0, none⟩ = some (.int .i64 x137000_1) := (blk_cell BK136.out 0).trans rfl; have hcz20_1 : w18.cell? ⟨gb136, 1, none⟩ = some (.int .i64 x137001_1) := (blk_cell BK136.out 1).trans rfl; have hfz20_0 := blk_frozen BK136.out 0; have hfz20_1 := blk_frozen BK136.out 1)))))
              (try rw [Exit.noGoto_ret])
              refine bodyPost_ret (results_tc rfl _ _ gb136 26 #[.int .i64 0, .int .i64 0] (0, 0) _ rfl (by (with_reducible repeat (first | refine blk_drewN ?_ _ | refine blk_drew ?_ | refine blk_alloc ?_ _)); refine blk_put (cs := #[.int .i64 0, .int .i64 x137001_1]) ?_ 1 _ rfl; (with_reducible repeat (first | refine blk_drewN ?_ _ | refine blk_drew ?_ | refine blk_alloc ?_ _)); refine blk_put (cs := #[.int .i64 x137000_1, .int .i64 x137001_1]) ?_ 0 _ rfl; (with_reducible repeat (first | refine blk_drewN ?_ _ | refine blk_drew ?_ | refine blk_alloc ?_ _)); exact BK136.out) Tryd.underlying26 rfl (by kernel_rfl)) rfl ?_
              exact ⟨_, er_, by (with_reducible repeat (first | apply Kd.R_alloc | apply Kd.R_drewN | apply Kd.R_drew)); exact Kd.R_mono (Kd.R_far (p := ⟨gb136, 1, none⟩) (Kd.R_far (p := ⟨gb136, 0, none⟩) (Kd.R_types HO148.out BK136.out (by decide)) (fun _ hk => hk.2) (.int .i64 0)) (fun _ hk => hk.2) (.int .i64 0)) (fun _ hk => trivial), bl3_ HB.out GE136.out GE144.out GE145.out⟩
            · rw [if_neg c9] at H
              have c9b0 : (t137 == 5) = false := beq_eq_false_iff_ne.mpr c9
              have c9b1 : (t137 != 5) = true := bne_iff_ne.mpr c9
              have H' := Aside0.mk H
              clear H
              go_wp2_with (first | ((with_reducible refine gate_callee (f := 55) rfl ?_); refine goesL_ (some 16) rfl rfl Tryd.func55 (by kernel_rfl) rfl #[.string a0, .int .i64 x5_1] rfl (by (try simp only [List.map_toArray, List.map_cons, List.map_nil]); first | done | rfl | (simp only [List.length_drop, List.length_take]; rfl)) ?_; (with_reducible refine (lexer_next.calls k1 a0 x5_1 t137 t138 t139 t140 t141 t142 t143 _ A6.out).mono ?_); rintro e w21 ⟨rfl, hb⟩; refine ⟨_, rfl, ?_⟩; have n0_ := Aside0.mk (Kd.R_below (by (with_reducible repeat (first | apply Kd.R_alloc | apply Kd.R_drewN | apply Kd.R_drew)); exact HO_4.out) hb); have n1_ := Aside0.mk (blk_below (g := gb136) (o := .cells #[.int .i64 x137000_1, .int .i64 x137001_1] 26 (0, 0)) (bk_ BK136.out) hb); have n2_ := Aside0.mk (below_step (bl1_ HB.out GE136.out) hb); clear HO_4; clear BK136; clear HB; have HO_4 := n0_; have BK136 := n1_; have HB := n2_; clear n0_ n1_ n2_; (try clear hb); (try clear hb2); (try clear hk); (try clear hi)) | ((with_reducible refine gate_dst (N := 6) rfl ?_); refine box_event ?hg (N := 6) ?hd (cs := #[.int .i64 0, .string (⟨#[]⟩ : ByteArray), .int .i64 0, .int .i64 0]) (t := 46) ?hr ?_; (case hd => rfl); (case hg => rfl); (case hr => first | (go_simp; done) | (go_simp; rfl)); intro gb144 hg w22 hbox hb; have n0_ := Aside0.mk (Kd.R_below (Kd.R_elderB (by (with_reducible repeat (first | apply Kd.R_alloc | apply Kd.R_drewN | apply Kd.R_drew)); exact HO_4.out) gb144 (Nat.le_of_eq hg.symm)) hb); have n1_ := Aside0.mk (blk_below (g := gb136) (o := .cells #[.int .i64 x137000_1, .int .i64 x137001_1] 26 (0, 0)) (bk_ BK136.out) hb); have n2_ := Aside0.mk (below_step (bl1_ HB.out GE136.out) hb); have n3_ := Aside0.mk (hbox); have n4_ := Aside0.mk ((by rw [hg]; exact (below_size (bl1_ HB.out GE136.out)) : w.heap.size ≤ gb144)); have n5_ := Aside0.mk ((by rw [hg]; exact (below_size (bl1_ HB.out GE136.out)) : w.heap.size ≤ gb144)); have n6_ := Aside0.mk ((by rw [hg]; exact Nat.ne_of_lt (blk_lt (g := gb136) (o := .cells #[.int .i64 x137000_1, .int .i64 x137001_1] 26 (0, 0)) (bk_ BK136.out)) : gb136 ≠ gb144)); have n7_ := Aside0.mk ((by rw [hg]; exact Nat.ne_of_gt (blk_lt (g := gb136) (o := .cells #[.int .i64 x137000_1, .int .i64 x137001_1] 26 (0, 0)) (bk_ BK136.out)) : gb144 ≠ gb136)); clear HO_4; clear BK136; clear HB; have HO_4 := n0_; have BK136 := n1_; have HB := n2_; have BK144 := n3_; have GW144 := n4_; have GE144 := n5_; have NB136_144 := n6_; have NB144_136 := n7_; clear n0_ n1_ n2_ n3_ n4_ n5_ n6_ n7_; clear hb hbox hg) | ((with_reducible refine gate_dst (N := 8) rfl ?_); refine box_event ?hg (N := 8) ?hd (cs := #[.int .i64 0, .int .i64 0]) (t := 26) ?hr ?_; (case hd => rfl); (case hg => rfl); (case hr => first | (go_simp; done) | (go_simp; rfl)); intro gb145 hg w23 hbox hb; have n0_ := Aside0.mk (Kd.R_below (by (with_reducible repeat (first | apply Kd.R_alloc | apply Kd.R_drewN | apply Kd.R_drew)); exact HO_4.out) hb); have n1_ := Aside0.mk (blk_below (g := gb136) (o := .cells #[.int .i64 x137000_1, .int .i64 x137001_1] 26 (0, 0)) (bk_ BK136.out) hb); have n2_ := Aside0.mk (blk_below (g := gb144) (o := .cells #[.int .i64 0, .string (⟨#[]⟩ : ByteArray), .int .i64 0, .int .i64 0] 46 (0, 0)) (bk_ BK144.out) hb); have n3_ := Aside0.mk (below_step (bl2_ HB.out GE136.out GE144.out) hb); have n4_ := Aside0.mk (hbox); have n5_ := Aside0.mk ((by rw [hg]; exact (below_size (bl2_ HB.out GE136.out GE144.out)) : w.heap.size ≤ gb145)); have n6_ := Aside0.mk ((by rw [hg]; exact (below_size (bl2_ HB.out GE136.out GE144.out)) : w.heap.size ≤ gb145)); have n7_ := Aside0.mk ((by rw [hg]; exact Nat.ne_of_lt (blk_lt (g := gb136) (o := .cells #[.int .i64 x137000_1, .int .i64 x137001_1] 26 (0, 0)) (bk_ BK136.out)) : gb136 ≠ gb145)); have n8_ := Aside0.mk ((by rw [hg]; exact Nat.ne_of_gt (blk_lt (g := gb136) (o := .cells #[.int .i64 x137000_1, .int .i64 x137001_1] 26 (0, 0)) (bk_ BK136.out)) : gb145 ≠ gb136)); have n9_ := Aside0.mk ((by rw [hg]; exact Nat.ne_of_lt (blk_lt (g := gb144) (o := .cells #[.int .i64 0, .string (⟨#[]⟩ : ByteArray), .int .i64 0, .int .i64 0] 46 (0, 0)) (bk_ BK144.out)) : gb144 ≠ gb145)); have n10_ := Aside0.mk ((by rw [hg]; exact Nat.ne_of_gt (blk_lt (g := gb144) (o := .cells #[.int .i64 0, .string (⟨#[]⟩ : ByteArray), .int .i64 0, .int .i64 0] 46 (0, 0)) (bk_ BK144.out)) : gb145 ≠ gb144)); clear HO_4; clear BK136; clear BK144; clear HB; have HO_4 := n0_; have BK136 := n1_; have BK144 := n2_; have HB := n3_; have BK145 := n4_; have GW145 := n5_; have GE145 := n6_; have NB136_145 := n7_; have NB145_136 := n8_; have NB144_145 := n9_; have NB145_144 := n10_; clear n0_ n1_ n2_ n3_ n4_ n5_ n6_ n7_ n8_ n9_ n10_; clear hb hbox hg; have hnb24 := NB144_136.out; have hnc24 := NB136_144.out; have hnb25 := NB144_145.out; have hnc25 := NB145_144.out; have hcz26_0 : w23.cell? ⟨gb144, 0, none⟩ = some (.int .i64 0) := (blk_cell BK144.out 0).trans rfl; have hcz26_1 : w23.cell? ⟨gb144, 1, none⟩ = some (.string (⟨#[]⟩ : ByteArray)) := (blk_cell BK144.out 1).trans rfl; have hcz26_2 : w23.cell? ⟨gb144, 2, none⟩ = some (.int .i64 0) := (blk_cell BK144.out 2).trans rfl; have hcz26_3 : w23.cell? ⟨gb144, 3, none⟩ = some (.int .i64 0) := (blk_cell BK144.out 3).trans rfl; have hfz26_0 := blk_frozen BK144.out 0; have hfz26_1 := blk_frozen BK144.out 1; have hfz26_2 := blk_frozen BK144.out 2; have hfz26_3 := blk_frozen BK144.out 3; have hnb27 := NB145_136.out; have hnc27 := NB136_145.out; have hcz28_0 : w23.cell? ⟨gb145, 0, none⟩ = some (.int .i64 0) := (blk_cell BK145.out 0).trans rfl; have hcz28_1 : w23.cell? ⟨gb145, 1, none⟩ = some (.int .i64 0) := (blk_cell BK145.out 1).trans rfl; have hfz28_0 := blk_frozen BK145.out 0; have hfz28_1 := blk_frozen BK145.out 1) | ((with_reducible refine gate_builtin (b := .append) (xs := #[.tmp 24, .tmp 26]) rfl ?_); at_builtin; refine Kd.R_append k46 (w0 := w) w.heap.size rfl (.tmp 24) (.tmp 26) 31 46 (.agg #[(.int .i64 0), (.string ⟨#[]⟩), (.int .i64 0), (.int .i64 0)]) 40 rfl Tryd.underlying31 info46 rfl (by decide) (by omega) u4 x4_1 (⟨t137, t138, t139, t140⟩ : S46) [.int .i64 t137, .string t138, .int .i64 t139, .int .i64 t140] (fun k_ => k_ ≠ gb144) (fun _ => False) rfl (by first | (go_simp; done) | (go_simp; rfl)) ?aP (fun _ hk => hk.elim) ?aF ?aO ?aB ?aS ?aL ?_; (case aP => exact k46_mkM _ _ _ (⟨t137, t138, t139, t140⟩ : S46)); (case aB => exact (bl3_ HB.out GE136.out GE144.out GE145.out)); (case aF => exact (fun k_ hk => Kd.freshB (g := gb144) (o := .cells #[.int .i64 t137, .string t138, .int .i64 t139, .int .i64 t140] 46 (0, 0)) (by (with_reducible repeat (first | refine blk_drewN ?_ _ | refine blk_drew ?_ | refine blk_alloc ?_ _)); refine blk_far ?_ NB144_145.out _; (with_reducible repeat (first | refine blk_drewN ?_ _ | refine blk_drew ?_ | refine blk_alloc ?_ _)); refine blk_far ?_ NB144_145.out _; (with_reducible repeat (first | refine blk_drewN ?_ _ | refine blk_drew ?_ | refine blk_alloc ?_ _)); refine blk_put (cs := #[.int .i64 t137, .string t138, .int .i64 t139, .int .i64 0]) ?_ 3 _ rfl; (with_reducible repeat (first | refine blk_drewN ?_ _ | refine blk_drew ?_ | refine blk_alloc ?_ _)); refine blk_put (cs := #[.int .i64 t137, .string t138, .int .i64 0, .int .i64 0]) ?_ 2 _ rfl; (with_reducible repeat (first | refine blk_drewN ?_ _ | refine blk_drew ?_ | refine blk_alloc ?_ _)); refine blk_put (cs := #[.int .i64 t137, .string (⟨#[]⟩ : ByteArray), .int .i64 0, .int .i64 0]) ?_ 1 _ rfl; (with_reducible repeat (first | refine blk_drewN ?_ _ | refine blk_drew ?_ | refine blk_alloc ?_ _)); refine blk_put (cs := #[.int .i64 0, .string (⟨#[]⟩ : ByteArray), .int .i64 0, .int .i64 0]) ?_ 0 _ rfl; (with_reducible repeat (first | refine blk_drewN ?_ _ | refine blk_drew ?_ | refine blk_alloc ?_ _)); exact BK144.out) k_ hk)); (case aO => exact (by (with_reducible repeat (first | apply Kd.R_alloc | apply Kd.R_drewN | apply Kd.R_drew)); exact Kd.R_mono (Kd.R_far (p := ⟨gb145, 1, none⟩) (Kd.R_far (p := ⟨gb145, 0, none⟩) (Kd.R_far (p := ⟨gb144, 3, none⟩) (Kd.R_far (p := ⟨gb144, 2, none⟩) (Kd.R_far (p := ⟨gb144, 1, none⟩) (Kd.R_far (p := ⟨gb144, 0, none⟩) (Kd.R_types (Kd.R_mono HO_4.out (fun k_ hk => (⟨hk, hk.2⟩ : _ ∧ k_ ≠ gb144))) BK145.out (by decide)) (fun _ hk => hk.1.2) (.int .i64 t137)) (fun _ hk => hk.1.2) (.string t138)) (fun _ hk => hk.1.2) (.int .i64 t139)) (fun _ hk => hk.1.2) (.int .i64 t140)) (fun _ hk => hk.2) (.int .i64 t142)) (fun _ hk => hk.2) (.int .i64 t143)) (fun _ hk => hk.1.1.2))); (case aS => exact (below_size (bl3_ HB.out GE136.out GE144.out GE145.out))); (case aL => have := LMc8.out; omega); intro v147 w29 ho hb hg hat; rw [← Ny146.out] at ho; have n0_ := Aside0.mk (blk_grown (g := gb136) (o := .cells #[.int .i64 x137000_1, .int .i64 x137001_1] 26 (0, 0)) (by (with_reducible repeat (first | refine blk_drewN ?_ _ | refine blk_drew ?_ | refine blk_alloc ?_ _)); refine blk_far ?_ NB136_145.out _; (with_reducible repeat (first | refine blk_drewN ?_ _ | refine blk_drew ?_ | refine blk_alloc ?_ _)); refine blk_far ?_ NB136_145.out _; (with_reducible repeat (first | refine blk_drewN ?_ _ | refine blk_drew ?_ | refine blk_alloc ?_ _)); refine blk_far ?_ NB136_144.out _; (with_reducible repeat (first | refine blk_drewN ?_ _ | refine blk_drew ?_ | refine blk_alloc ?_ _)); refine blk_far ?_ NB136_144.out _; (with_reducible repeat (first | refine blk_drewN ?_ _ | refine blk_drew ?_ | refine blk_alloc ?_ _)); refine blk_far ?_ NB136_144.out _; (with_reducible repeat (first | refine blk_drewN ?_ _ | refine blk_drew ?_ | refine blk_alloc ?_ _)); refine blk_far ?_ NB136_144.out _; (with_reducible repeat (first | refine blk_drewN ?_ _ | refine blk_drew ?_ | refine blk_alloc ?_ _)); exact BK136.out) hg (Kd.R_ne HO_4.out BK136.out (by decide))); have n1_ := Aside0.mk (blk_grown (g := gb144) (o := .cells #[.int .i64 t137, .string t138, .int .i64 t139, .int .i64 t140] 46 (0, 0)) (by (with_reducible repeat (first | refine blk_drewN ?_ _ | refine blk_drew ?_ | refine blk_alloc ?_ _)); refine blk_far ?_ NB144_145.out _; (with_reducible repeat (first | refine blk_drewN ?_ _ | refine blk_drew ?_ | refine blk_alloc ?_ _)); refine blk_far ?_ NB144_145.out _; (with_reducible repeat (first | refine blk_drewN ?_ _ | refine blk_drew ?_ | refine blk_alloc ?_ _)); refine blk_put (cs := #[.int .i64 t137, .string t138, .int .i64 t139, .int .i64 0]) ?_ 3 _ rfl; (with_reducible repeat (first | refine blk_drewN ?_ _ | refine blk_drew ?_ | refine blk_alloc ?_ _)); refine blk_put (cs := #[.int .i64 t137, .string t138, .int .i64 0, .int .i64 0]) ?_ 2 _ rfl; (with_reducible repeat (first | refine blk_drewN ?_ _ | refine blk_drew ?_ | refine blk_alloc ?_ _)); refine blk_put (cs := #[.int .i64 t137, .string (⟨#[]⟩ : ByteArray), .int .i64 0, .int .i64 0]) ?_ 1 _ rfl; (with_reducible repeat (first | refine blk_drewN ?_ _ | refine blk_drew ?_ | refine blk_alloc ?_ _)); refine blk_put (cs := #[.int .i64 0, .string (⟨#[]⟩ : ByteArray), .int .i64 0, .int .i64 0]) ?_ 0 _ rfl; (with_reducible repeat (first | refine blk_drewN ?_ _ | refine blk_drew ?_ | refine blk_alloc ?_ _)); exact BK144.out) hg (Kd.R_away HO_4.out (fun _ hk => hk.2))); have n2_ := Aside0.mk (blk_grown (g := gb145) (o := .cells #[.int .i64 t142, .int .i64 t143] 26 (0, 0)) (by (with_reducible repeat (first | refine blk_drewN ?_ _ | refine blk_drew ?_ | refine blk_alloc ?_ _)); refine blk_put (cs := #[.int .i64 t142, .int .i64 0]) ?_ 1 _ rfl; (with_reducible repeat (first | refine blk_drewN ?_ _ | refine blk_drew ?_ | refine blk_alloc ?_ _)); refine blk_put (cs := #[.int .i64 0, .int .i64 0]) ?_ 0 _ rfl; (with_reducible repeat (first | refine blk_drewN ?_ _ | refine blk_drew ?_ | refine blk_alloc ?_ _)); refine blk_far ?_ NB145_144.out _; (with_reducible repeat (first | refine blk_drewN ?_ _ | refine blk_drew ?_ | refine blk_alloc ?_ _)); refine blk_far ?_ NB145_144.out _; (with_reducible repeat (first | refine blk_drewN ?_ _ | refine blk_drew ?_ | refine blk_alloc ?_ _)); refine blk_far ?_ NB145_144.out _; (with_reducible repeat (first | refine blk_drewN ?_ _ | refine blk_drew ?_ | refine blk_alloc ?_ _)); refine blk_far ?_ NB145_144.out _; (with_reducible repeat (first | refine blk_drewN ?_ _ | refine blk_drew ?_ | refine blk_alloc ?_ _)); exact BK145.out) hg (Kd.R_ne HO_4.out BK145.out (by decide))); have n3_ := Aside0.mk (hb); have n4_ := Aside0.mk (ho); clear BK136; clear BK144; clear BK145; clear HB; clear HO_4; have BK136 := n0_; have BK144 := n1_; have BK145 := n2_; have HB := n3_; have HO148 := n4_; clear n0_ n1_ n2_ n3_ n4_; clear ho hb hg hat; have hcz30_0 : w29.cell? ⟨gb144, 0, none⟩ = some (.int .i64 t137) := (blk_cell BK144.out 0).trans rfl; have hcz30_1 : w29.cell? ⟨gb144, 1, none⟩ = some (.string t138) := (blk_cell BK144.out 1).trans rfl; have hcz30_2 : w29.cell? ⟨gb144, 2, none⟩ = some (.int .i64 t139) := (blk_cell BK144.out 2).trans rfl; have hcz30_3 : w29.cell? ⟨gb144, 3, none⟩ = some (.int .i64 t140) := (blk_cell BK144.out 3).trans rfl; have hfz30_0 := blk_frozen BK144.out 0; have hfz30_1 := blk_frozen BK144.out 1; have hfz30_2 := blk_frozen BK144.out 2; have hfz30_3 := blk_frozen BK144.out 3))
              iterate 3 (try (go_step3; (try go_wp2_with (first | ((with_reducible refine gate_callee (f := 55) rfl ?_); refine goesL_ (some 16) rfl rfl Tryd.func55 (by kernel_rfl) rfl #[.string a0, .int .i64 x5_1] rfl (by (try simp only [List.map_toArray, List.map_cons, List.map_nil]); first | done | rfl | (simp only [List.length_drop, List.length_take]; rfl)) ?_; (with_reducible refine (lexer_next.calls k1 a0 x5_1 t137 t138 t139 t140 t141 t142 t143 _ A6.out).mono ?_); rintro e w21 ⟨rfl, hb⟩; refine ⟨_, rfl, ?_⟩; have n0_ := Aside0.mk (Kd.R_below (by (with_reducible repeat (first | apply Kd.R_alloc | apply Kd.R_drewN | apply Kd.R_drew)); exact HO_4.out) hb); have n1_ := Aside0.mk (blk_below (g := gb136) (o := .cells #[.int .i64 x137000_1, .int .i64 x137001_1] 26 (0, 0)) (bk_ BK136.out) hb); have n2_ := Aside0.mk (below_step (bl1_ HB.out GE136.out) hb); clear HO_4; clear BK136; clear HB; have HO_4 := n0_; have BK136 := n1_; have HB := n2_; clear n0_ n1_ n2_; (try clear hb); (try clear hb2); (try clear hk); (try clear hi)) | ((with_reducible refine gate_dst (N := 6) rfl ?_); refine box_event ?hg (N := 6) ?hd (cs := #[.int .i64 0, .string (⟨#[]⟩ : ByteArray), .int .i64 0, .int .i64 0]) (t := 46) ?hr ?_; (case hd => rfl); (case hg => rfl); (case hr => first | (go_simp; done) | (go_simp; rfl)); intro gb144 hg w22 hbox hb; have n0_ := Aside0.mk (Kd.R_below (Kd.R_elderB (by (with_reducible repeat (first | apply Kd.R_alloc | apply Kd.R_drewN | apply Kd.R_drew)); exact HO_4.out) gb144 (Nat.le_of_eq hg.symm)) hb); have n1_ := Aside0.mk (blk_below (g := gb136) (o := .cells #[.int .i64 x137000_1, .int .i64 x137001_1] 26 (0, 0)) (bk_ BK136.out) hb); have n2_ := Aside0.mk (below_step (bl1_ HB.out GE136.out) hb); have n3_ := Aside0.mk (hbox); have n4_ := Aside0.mk ((by rw [hg]; exact (below_size (bl1_ HB.out GE136.out)) : w.heap.size ≤ gb144)); have n5_ := Aside0.mk ((by rw [hg]; exact (below_size (bl1_ HB.out GE136.out)) : w.heap.size ≤ gb144)); have n6_ := Aside0.mk ((by rw [hg]; exact Nat.ne_of_lt (blk_lt (g := gb136) (o := .cells #[.int .i64 x137000_1, .int .i64 x137001_1] 26 (0, 0)) (bk_ BK136.out)) : gb136 ≠ gb144)); have n7_ := Aside0.mk ((by rw [hg]; exact Nat.ne_of_gt (blk_lt (g := gb136) (o := .cells #[.int .i64 x137000_1, .int .i64 x137001_1] 26 (0, 0)) (bk_ BK136.out)) : gb144 ≠ gb136)); clear HO_4; clear BK136; clear HB; have HO_4 := n0_; have BK136 := n1_; have HB := n2_; have BK144 := n3_; have GW144 := n4_; have GE144 := n5_; have NB136_144 := n6_; have NB144_136 := n7_; clear n0_ n1_ n2_ n3_ n4_ n5_ n6_ n7_; clear hb hbox hg) | ((with_reducible refine gate_dst (N := 8) rfl ?_); refine box_event ?hg (N := 8) ?hd (cs := #[.int .i64 0, .int .i64 0]) (t := 26) ?hr ?_; (case hd => rfl); (case hg => rfl); (case hr => first | (go_simp; done) | (go_simp; rfl)); intro gb145 hg w23 hbox hb; have n0_ := Aside0.mk (Kd.R_below (by (with_reducible repeat (first | apply Kd.R_alloc | apply Kd.R_drewN | apply Kd.R_drew)); exact HO_4.out) hb); have n1_ := Aside0.mk (blk_below (g := gb136) (o := .cells #[.int .i64 x137000_1, .int .i64 x137001_1] 26 (0, 0)) (bk_ BK136.out) hb); have n2_ := Aside0.mk (blk_below (g := gb144) (o := .cells #[.int .i64 0, .string (⟨#[]⟩ : ByteArray), .int .i64 0, .int .i64 0] 46 (0, 0)) (bk_ BK144.out) hb); have n3_ := Aside0.mk (below_step (bl2_ HB.out GE136.out GE144.out) hb); have n4_ := Aside0.mk (hbox); have n5_ := Aside0.mk ((by rw [hg]; exact (below_size (bl2_ HB.out GE136.out GE144.out)) : w.heap.size ≤ gb145)); have n6_ := Aside0.mk ((by rw [hg]; exact (below_size (bl2_ HB.out GE136.out GE144.out)) : w.heap.size ≤ gb145)); have n7_ := Aside0.mk ((by rw [hg]; exact Nat.ne_of_lt (blk_lt (g := gb136) (o := .cells #[.int .i64 x137000_1, .int .i64 x137001_1] 26 (0, 0)) (bk_ BK136.out)) : gb136 ≠ gb145)); have n8_ := Aside0.mk ((by rw [hg]; exact Nat.ne_of_gt (blk_lt (g := gb136) (o := .cells #[.int .i64 x137000_1, .int .i64 x137001_1] 26 (0, 0)) (bk_ BK136.out)) : gb145 ≠ gb136)); have n9_ := Aside0.mk ((by rw [hg]; exact Nat.ne_of_lt (blk_lt (g := gb144) (o := .cells #[.int .i64 0, .string (⟨#[]⟩ : ByteArray), .int .i64 0, .int .i64 0] 46 (0, 0)) (bk_ BK144.out)) : gb144 ≠ gb145)); have n10_ := Aside0.mk ((by rw [hg]; exact Nat.ne_of_gt (blk_lt (g := gb144) (o := .cells #[.int .i64 0, .string (⟨#[]⟩ : ByteArray), .int .i64 0, .int .i64 0] 46 (0, 0)) (bk_ BK144.out)) : gb145 ≠ gb144)); clear HO_4; clear BK136; clear BK144; clear HB; have HO_4 := n0_; have BK136 := n1_; have BK144 := n2_; have HB := n3_; have BK145 := n4_; have GW145 := n5_; have GE145 := n6_; have NB136_145 := n7_; have NB145_136 := n8_; have NB144_145 := n9_; have NB145_144 := n10_; clear n0_ n1_ n2_ n3_ n4_ n5_ n6_ n7_ n8_ n9_ n10_; clear hb hbox hg; have hnb24 := NB144_136.out; have hnc24 := NB136_144.out; have hnb25 := NB144_145.out; have hnc25 := NB145_144.out; have hcz26_0 : w23.cell? ⟨gb144, 0, none⟩ = some (.int .i64 0) := (blk_cell BK144.out 0).trans rfl; have hcz26_1 : w23.cell? ⟨gb144, 1, none⟩ = some (.string (⟨#[]⟩ : ByteArray)) := (blk_cell BK144.out 1).trans rfl; have hcz26_2 : w23.cell? ⟨gb144, 2, none⟩ = some (.int .i64 0) := (blk_cell BK144.out 2).trans rfl; have hcz26_3 : w23.cell? ⟨gb144, 3, none⟩ = some (.int .i64 0) := (blk_cell BK144.out 3).trans rfl; have hfz26_0 := blk_frozen BK144.out 0; have hfz26_1 := blk_frozen BK144.out 1; have hfz26_2 := blk_frozen BK144.out 2; have hfz26_3 := blk_frozen BK144.out 3; have hnb27 := NB145_136.out; have hnc27 := NB136_145.out; have hcz28_0 : w23.cell? ⟨gb145, 0, none⟩ = some (.int .i64 0) := (blk_cell BK145.out 0).trans rfl; have hcz28_1 : w23.cell? ⟨gb145, 1, none⟩ = some (.int .i64 0) := (blk_cell BK145.out 1).trans rfl; have hfz28_0 := blk_frozen BK145.out 0; have hfz28_1 := blk_frozen BK145.out 1) | ((with_reducible refine gate_builtin (b := .append) (xs := #[.tmp 24, .tmp 26]) rfl ?_); at_builtin; refine Kd.R_append k46 (w0 := w) w.heap.size rfl (.tmp 24) (.tmp 26) 31 46 (.agg #[(.int .i64 0), (.string ⟨#[]⟩), (.int .i64 0), (.int .i64 0)]) 40 rfl Tryd.underlying31 info46 rfl (by decide) (by omega) u4 x4_1 (⟨t137, t138, t139, t140⟩ : S46) [.int .i64 t137, .string t138, .int .i64 t139, .int .i64 t140] (fun k_ => k_ ≠ gb144) (fun _ => False) rfl (by first | (go_simp; done) | (go_simp; rfl)) ?aP (fun _ hk => hk.elim) ?aF ?aO ?aB ?aS ?aL ?_; (case aP => exact k46_mkM _ _ _ (⟨t137, t138, t139, t140⟩ : S46)); (case aB => exact (bl3_ HB.out GE136.out GE144.out GE145.out)); (case aF => exact (fun k_ hk => Kd.freshB (g := gb144) (o := .cells #[.int .i64 t137, .string t138, .int .i64 t139, .int .i64 t140] 46 (0, 0)) (by (with_reducible repeat (first | refine blk_drewN ?_ _ | refine blk_drew ?_ | refine blk_alloc ?_ _)); refine blk_far ?_ NB144_145.out _; (with_reducible repeat (first | refine blk_drewN ?_ _ | refine blk_drew ?_ | refine blk_alloc ?_ _)); refine blk_far ?_ NB144_145.out _; (with_reducible repeat (first | refine blk_drewN ?_ _ | refine blk_drew ?_ | refine blk_alloc ?_ _)); refine blk_put (cs := #[.int .i64 t137, .string t138, .int .i64 t139, .int .i64 0]) ?_ 3 _ rfl; (with_reducible repeat (first | refine blk_drewN ?_ _ | refine blk_drew ?_ | refine blk_alloc ?_ _)); refine blk_put (cs := #[.int .i64 t137, .string t138, .int .i64 0, .int .i64 0]) ?_ 2 _ rfl; (with_reducible repeat (first | refine blk_drewN ?_ _ | refine blk_drew ?_ | refine blk_alloc ?_ _)); refine blk_put (cs := #[.int .i64 t137, .string (⟨#[]⟩ : ByteArray), .int .i64 0, .int .i64 0]) ?_ 1 _ rfl; (with_reducible repeat (first | refine blk_drewN ?_ _ | refine blk_drew ?_ | refine blk_alloc ?_ _)); refine blk_put (cs := #[.int .i64 0, .string (⟨#[]⟩ : ByteArray), .int .i64 0, .int .i64 0]) ?_ 0 _ rfl; (with_reducible repeat (first | refine blk_drewN ?_ _ | refine blk_drew ?_ | refine blk_alloc ?_ _)); exact BK144.out) k_ hk)); (case aO => exact (by (with_reducible repeat (first | apply Kd.R_alloc | apply Kd.R_drewN | apply Kd.R_drew)); exact Kd.R_mono (Kd.R_far (p := ⟨gb145, 1, none⟩) (Kd.R_far (p := ⟨gb145, 0, none⟩) (Kd.R_far (p := ⟨gb144, 3, none⟩) (Kd.R_far (p := ⟨gb144, 2, none⟩) (Kd.R_far (p := ⟨gb144, 1, none⟩) (Kd.R_far (p := ⟨gb144, 0, none⟩) (Kd.R_types (Kd.R_mono HO_4.out (fun k_ hk => (⟨hk, hk.2⟩ : _ ∧ k_ ≠ gb144))) BK145.out (by decide)) (fun _ hk => hk.1.2) (.int .i64 t137)) (fun _ hk => hk.1.2) (.string t138)) (fun _ hk => hk.1.2) (.int .i64 t139)) (fun _ hk => hk.1.2) (.int .i64 t140)) (fun _ hk => hk.2) (.int .i64 t142)) (fun _ hk => hk.2) (.int .i64 t143)) (fun _ hk => hk.1.1.2))); (case aS => exact (below_size (bl3_ HB.out GE136.out GE144.out GE145.out))); (case aL => have := LMc8.out; omega); intro v147 w29 ho hb hg hat; rw [← Ny146.out] at ho; have n0_ := Aside0.mk (blk_grown (g := gb136) (o := .cells #[.int .i64 x137000_1, .int .i64 x137001_1] 26 (0, 0)) (by (with_reducible repeat (first | refine blk_drewN ?_ _ | refine blk_drew ?_ | refine blk_alloc ?_ _)); refine blk_far ?_ NB136_145.out _; (with_reducible repeat (first | refine blk_drewN ?_ _ | refine blk_drew ?_ | refine blk_alloc ?_ _)); refine blk_far ?_ NB136_145.out _; (with_reducible repeat (first | refine blk_drewN ?_ _ | refine blk_drew ?_ | refine blk_alloc ?_ _)); refine blk_far ?_ NB136_144.out _; (with_reducible repeat (first | refine blk_drewN ?_ _ | refine blk_drew ?_ | refine blk_alloc ?_ _)); refine blk_far ?_ NB136_144.out _; (with_reducible repeat (first | refine blk_drewN ?_ _ | refine blk_drew ?_ | refine blk_alloc ?_ _)); refine blk_far ?_ NB136_144.out _; (with_reducible repeat (first | refine blk_drewN ?_ _ | refine blk_drew ?_ | refine blk_alloc ?_ _)); refine blk_far ?_ NB136_144.out _; (with_reducible repeat (first | refine blk_drewN ?_ _ | refine blk_drew ?_ | refine blk_alloc ?_ _)); exact BK136.out) hg (Kd.R_ne HO_4.out BK136.out (by decide))); have n1_ := Aside0.mk (blk_grown (g := gb144) (o := .cells #[.int .i64 t137, .string t138, .int .i64 t139, .int .i64 t140] 46 (0, 0)) (by (with_reducible repeat (first | refine blk_drewN ?_ _ | refine blk_drew ?_ | refine blk_alloc ?_ _)); refine blk_far ?_ NB144_145.out _; (with_reducible repeat (first | refine blk_drewN ?_ _ | refine blk_drew ?_ | refine blk_alloc ?_ _)); refine blk_far ?_ NB144_145.out _; (with_reducible repeat (first | refine blk_drewN ?_ _ | refine blk_drew ?_ | refine blk_alloc ?_ _)); refine blk_put (cs := #[.int .i64 t137, .string t138, .int .i64 t139, .int .i64 0]) ?_ 3 _ rfl; (with_reducible repeat (first | refine blk_drewN ?_ _ | refine blk_drew ?_ | refine blk_alloc ?_ _)); refine blk_put (cs := #[.int .i64 t137, .string t138, .int .i64 0, .int .i64 0]) ?_ 2 _ rfl; (with_reducible repeat (first | refine blk_drewN ?_ _ | refine blk_drew ?_ | refine blk_alloc ?_ _)); refine blk_put (cs := #[.int .i64 t137, .string (⟨#[]⟩ : ByteArray), .int .i64 0, .int .i64 0]) ?_ 1 _ rfl; (with_reducible repeat (first | refine blk_drewN ?_ _ | refine blk_drew ?_ | refine blk_alloc ?_ _)); refine blk_put (cs := #[.int .i64 0, .string (⟨#[]⟩ : ByteArray), .int .i64 0, .int .i64 0]) ?_ 0 _ rfl; (with_reducible repeat (first | refine blk_drewN ?_ _ | refine blk_drew ?_ | refine blk_alloc ?_ _)); exact BK144.out) hg (Kd.R_away HO_4.out (fun _ hk => hk.2))); have n2_ := Aside0.mk (blk_grown (g := gb145) (o := .cells #[.int .i64 t142, .int .i64 t143] 26 (0, 0)) (by (with_reducible repeat (first | refine blk_drewN ?_ _ | refine blk_drew ?_ | refine blk_alloc ?_ _)); refine blk_put (cs := #[.int .i64 t142, .int .i64 0]) ?_ 1 _ rfl; (with_reducible repeat (first | refine blk_drewN ?_ _ | refine blk_drew ?_ | refine blk_alloc ?_ _)); refine blk_put (cs := #[.int .i64 0, .int .i64 0]) ?_ 0 _ rfl; (with_reducible repeat (first | refine blk_drewN ?_ _ | refine blk_drew ?_ | refine blk_alloc ?_ _)); refine blk_far ?_ NB145_144.out _; (with_reducible repeat (first | refine blk_drewN ?_ _ | refine blk_drew ?_ | refine blk_alloc ?_ _)); refine blk_far ?_ NB145_144.out _; (with_reducible repeat (first | refine blk_drewN ?_ _ | refine blk_drew ?_ | refine blk_alloc ?_ _)); refine blk_far ?_ NB145_144.out _; (with_reducible repeat (first | refine blk_drewN ?_ _ | refine blk_drew ?_ | refine blk_alloc ?_ _)); refine blk_far ?_ NB145_144.out _; (with_reducible repeat (first | refine blk_drewN ?_ _ | refine blk_drew ?_ | refine blk_alloc ?_ _)); exact BK145.out) hg (Kd.R_ne HO_4.out BK145.out (by decide))); have n3_ := Aside0.mk (hb); have n4_ := Aside0.mk (ho); clear BK136; clear BK144; clear BK145; clear HB; clear HO_4; have BK136 := n0_; have BK144 := n1_; have BK145 := n2_; have HB := n3_; have HO148 := n4_; clear n0_ n1_ n2_ n3_ n4_; clear ho hb hg hat; have hcz30_0 : w29.cell? ⟨gb144, 0, none⟩ = some (.int .i64 t137) := (blk_cell BK144.out 0).trans rfl; have hcz30_1 : w29.cell? ⟨gb144, 1, none⟩ = some (.string t138) := (blk_cell BK144.out 1).trans rfl; have hcz30_2 : w29.cell? ⟨gb144, 2, none⟩ = some (.int .i64 t139) := (blk_cell BK144.out 2).trans rfl; have hcz30_3 : w29.cell? ⟨gb144, 3, none⟩ = some (.int .i64 t140) := (blk_cell BK144.out 3).trans rfl; have hfz30_0 := blk_frozen BK144.out 0; have hfz30_1 := blk_frozen BK144.out 1; have hfz30_2 := blk_frozen BK144.out 2; have hfz30_3 := blk_frozen BK144.out 3)))))
              go_roundg k1
              case measure => have := HK1.out; omega
              case rel => exact ⟨(y146), (t141), (x137000_1), (x137001_1), (by first | rfl | (simp; done) | (simp [*]; done) | (simp <;> rfl)), H', ⟨by have := HK1.out; omega⟩, ⟨by (with_reducible repeat (first | apply Kd.R_alloc | apply Kd.R_drewN | apply Kd.R_drew)); exact Kd.R_mono HO148.out (fun _ hk => trivial)⟩, ⟨by (with_reducible repeat (first | refine blk_drewN ?_ _ | refine blk_drew ?_ | refine blk_alloc ?_ _)); exact BK136.out⟩, ⟨bl3_ HB.out GE136.out GE144.out GE145.out⟩⟩
          · rw [if_neg c8] at H
            exact absurd H (by simp)
        · rw [if_neg c7] at H
          have c7b0 : (t142 == 0) = false := beq_eq_false_iff_ne.mpr c7
          have c7b1 : (t142 != 0) = true := bne_iff_ne.mpr c7
          simp only [Option.some.injEq, Prod.mk.injEq] at H
          obtain ⟨rfl, rfl, rfl⟩ := H
          try go_wp2_with (first | ((with_reducible refine gate_callee (f := 55) rfl ?_); refine goesL_ (some 16) rfl rfl Tryd.func55 (by kernel_rfl) rfl #[.string a0, .int .i64 x5_1] rfl (by (try simp only [List.map_toArray, List.map_cons, List.map_nil]); first | done | rfl | (simp only [List.length_drop, List.length_take]; rfl)) ?_; (with_reducible refine (lexer_next.calls k1 a0 x5_1 t137 t138 t139 t140 t141 t142 t143 _ A6.out).mono ?_); rintro e w31 ⟨rfl, hb⟩; refine ⟨_, rfl, ?_⟩; have n0_ := Aside0.mk (Kd.R_below (by (with_reducible repeat (first | apply Kd.R_alloc | apply Kd.R_drewN | apply Kd.R_drew)); exact HO_4.out) hb); have n1_ := Aside0.mk (blk_below (g := gb136) (o := .cells #[.int .i64 x137000_1, .int .i64 x137001_1] 26 (0, 0)) (bk_ BK136.out) hb); have n2_ := Aside0.mk (below_step (bl1_ HB.out GE136.out) hb); clear HO_4; clear BK136; clear HB; have HO_4 := n0_; have BK136 := n1_; have HB := n2_; clear n0_ n1_ n2_; (try clear hb); (try clear hb2); (try clear hk); (try clear hi)) | ((with_reducible refine gate_dst (N := 6) rfl ?_); refine box_event ?hg (N := 6) ?hd (cs := #[.int .i64 0, .string (⟨#[]⟩ : ByteArray), .int .i64 0, .int .i64 0]) (t := 46) ?hr ?_; (case hd => rfl); (case hg => rfl); (case hr => first | (go_simp; done) | (go_simp; rfl)); intro gb144 hg w32 hbox hb; have n0_ := Aside0.mk (Kd.R_below (Kd.R_elderB (by (with_reducible repeat (first | apply Kd.R_alloc | apply Kd.R_drewN | apply Kd.R_drew)); exact HO_4.out) gb144 (Nat.le_of_eq hg.symm)) hb); have n1_ := Aside0.mk (blk_below (g := gb136) (o := .cells #[.int .i64 x137000_1, .int .i64 x137001_1] 26 (0, 0)) (bk_ BK136.out) hb); have n2_ := Aside0.mk (below_step (bl1_ HB.out GE136.out) hb); have n3_ := Aside0.mk (hbox); have n4_ := Aside0.mk ((by rw [hg]; exact (below_size (bl1_ HB.out GE136.out)) : w.heap.size ≤ gb144)); have n5_ := Aside0.mk ((by rw [hg]; exact (below_size (bl1_ HB.out GE136.out)) : w.heap.size ≤ gb144)); have n6_ := Aside0.mk ((by rw [hg]; exact Nat.ne_of_lt (blk_lt (g := gb136) (o := .cells #[.int .i64 x137000_1, .int .i64 x137001_1] 26 (0, 0)) (bk_ BK136.out)) : gb136 ≠ gb144)); have n7_ := Aside0.mk ((by rw [hg]; exact Nat.ne_of_gt (blk_lt (g := gb136) (o := .cells #[.int .i64 x137000_1, .int .i64 x137001_1] 26 (0, 0)) (bk_ BK136.out)) : gb144 ≠ gb136)); clear HO_4; clear BK136; clear HB; have HO_4 := n0_; have BK136 := n1_; have HB := n2_; have BK144 := n3_; have GW144 := n4_; have GE144 := n5_; have NB136_144 := n6_; have NB144_136 := n7_; clear n0_ n1_ n2_ n3_ n4_ n5_ n6_ n7_; clear hb hbox hg) | ((with_reducible refine gate_dst (N := 8) rfl ?_); refine box_event ?hg (N := 8) ?hd (cs := #[.int .i64 0, .int .i64 0]) (t := 26) ?hr ?_; (case hd => rfl); (case hg => rfl); (case hr => first | (go_simp; done) | (go_simp; rfl)); intro gb145 hg w33 hbox hb; have n0_ := Aside0.mk (Kd.R_below (by (with_reducible repeat (first | apply Kd.R_alloc | apply Kd.R_drewN | apply Kd.R_drew)); exact HO_4.out) hb); have n1_ := Aside0.mk (blk_below (g := gb136) (o := .cells #[.int .i64 x137000_1, .int .i64 x137001_1] 26 (0, 0)) (bk_ BK136.out) hb); have n2_ := Aside0.mk (blk_below (g := gb144) (o := .cells #[.int .i64 0, .string (⟨#[]⟩ : ByteArray), .int .i64 0, .int .i64 0] 46 (0, 0)) (bk_ BK144.out) hb); have n3_ := Aside0.mk (below_step (bl2_ HB.out GE136.out GE144.out) hb); have n4_ := Aside0.mk (hbox); have n5_ := Aside0.mk ((by rw [hg]; exact (below_size (bl2_ HB.out GE136.out GE144.out)) : w.heap.size ≤ gb145)); have n6_ := Aside0.mk ((by rw [hg]; exact (below_size (bl2_ HB.out GE136.out GE144.out)) : w.heap.size ≤ gb145)); have n7_ := Aside0.mk ((by rw [hg]; exact Nat.ne_of_lt (blk_lt (g := gb136) (o := .cells #[.int .i64 x137000_1, .int .i64 x137001_1] 26 (0, 0)) (bk_ BK136.out)) : gb136 ≠ gb145)); have n8_ := Aside0.mk ((by rw [hg]; exact Nat.ne_of_gt (blk_lt (g := gb136) (o := .cells #[.int .i64 x137000_1, .int .i64 x137001_1] 26 (0, 0)) (bk_ BK136.out)) : gb145 ≠ gb136)); have n9_ := Aside0.mk ((by rw [hg]; exact Nat.ne_of_lt (blk_lt (g := gb144) (o := .cells #[.int .i64 0, .string (⟨#[]⟩ : ByteArray), .int .i64 0, .int .i64 0] 46 (0, 0)) (bk_ BK144.out)) : gb144 ≠ gb145)); have n10_ := Aside0.mk ((by rw [hg]; exact Nat.ne_of_gt (blk_lt (g := gb144) (o := .cells #[.int .i64 0, .string (⟨#[]⟩ : ByteArray), .int .i64 0, .int .i64 0] 46 (0, 0)) (bk_ BK144.out)) : gb145 ≠ gb144)); clear HO_4; clear BK136; clear BK144; clear HB; have HO_4 := n0_; have BK136 := n1_; have BK144 := n2_; have HB := n3_; have BK145 := n4_; have GW145 := n5_; have GE145 := n6_; have NB136_145 := n7_; have NB145_136 := n8_; have NB144_145 := n9_; have NB145_144 := n10_; clear n0_ n1_ n2_ n3_ n4_ n5_ n6_ n7_ n8_ n9_ n10_; clear hb hbox hg; have hnb34 := NB144_136.out; have hnc34 := NB136_144.out; have hnb35 := NB144_145.out; have hnc35 := NB145_144.out; have hcz36_0 : w33.cell? ⟨gb144, 0, none⟩ = some (.int .i64 0) := (blk_cell BK144.out 0).trans rfl; have hcz36_1 : w33.cell? ⟨gb144, 1, none⟩ = some (.string (⟨#[]⟩ : ByteArray)) := (blk_cell BK144.out 1).trans rfl; have hcz36_2 : w33.cell? ⟨gb144, 2, none⟩ = some (.int .i64 0) := (blk_cell BK144.out 2).trans rfl; have hcz36_3 : w33.cell? ⟨gb144, 3, none⟩ = some (.int .i64 0) := (blk_cell BK144.out 3).trans rfl; have hfz36_0 := blk_frozen BK144.out 0; have hfz36_1 := blk_frozen BK144.out 1; have hfz36_2 := blk_frozen BK144.out 2; have hfz36_3 := blk_frozen BK144.out 3; have hnb37 := NB145_136.out; have hnc37 := NB136_145.out; have hcz38_0 : w33.cell? ⟨gb145, 0, none⟩ = some (.int .i64 0) := (blk_cell BK145.out 0).trans rfl; have hcz38_1 : w33.cell? ⟨gb145, 1, none⟩ = some (.int .i64 0) := (blk_cell BK145.out 1).trans rfl; have hfz38_0 := blk_frozen BK145.out 0; have hfz38_1 := blk_frozen BK145.out 1))
          have n0_ : Aside0 (Kd.R k46 46 ((((((w33.setCell ⟨gb144, 0, none⟩ (.int .i64 t137)).setCell ⟨gb144, 1, none⟩ (.string t138)).setCell ⟨gb144, 2, none⟩ (.int .i64 t139)).setCell ⟨gb144, 3, none⟩ (.int .i64 t140)).setCell ⟨gb145, 0, none⟩ (.int .i64 t142)).setCell ⟨gb145, 1, none⟩ (.int .i64 t143)) w.heap.size (fun k_ => k_ ≠ gb144) u4 x4_1) := ⟨by (with_reducible repeat (first | apply Kd.R_alloc | apply Kd.R_drewN | apply Kd.R_drew)); exact Kd.R_mono (Kd.R_far (p := ⟨gb145, 1, none⟩) (Kd.R_far (p := ⟨gb145, 0, none⟩) (Kd.R_far (p := ⟨gb144, 3, none⟩) (Kd.R_far (p := ⟨gb144, 2, none⟩) (Kd.R_far (p := ⟨gb144, 1, none⟩) (Kd.R_far (p := ⟨gb144, 0, none⟩) (Kd.R_types (Kd.R_mono HO_4.out (fun k_ hk => (⟨hk, hk.2⟩ : _ ∧ k_ ≠ gb144))) BK145.out (by decide)) (fun _ hk => hk.1.2) (.int .i64 t137)) (fun _ hk => hk.1.2) (.string t138)) (fun _ hk => hk.1.2) (.int .i64 t139)) (fun _ hk => hk.1.2) (.int .i64 t140)) (fun _ hk => hk.2) (.int .i64 t142)) (fun _ hk => hk.2) (.int .i64 t143)) (fun _ hk => hk.1.1.2)⟩
          have n1_ : Aside0 (((((((w33.setCell ⟨gb144, 0, none⟩ (.int .i64 t137)).setCell ⟨gb144, 1, none⟩ (.string t138)).setCell ⟨gb144, 2, none⟩ (.int .i64 t139)).setCell ⟨gb144, 3, none⟩ (.int .i64 t140)).setCell ⟨gb145, 0, none⟩ (.int .i64 t142)).setCell ⟨gb145, 1, none⟩ (.int .i64 t143)).heap[gb136]? = some (.cells #[.int .i64 x137000_1, .int .i64 x137001_1] 26 (0, 0))) := ⟨by (with_reducible repeat (first | refine blk_drewN ?_ _ | refine blk_drew ?_ | refine blk_alloc ?_ _)); refine blk_far ?_ NB136_145.out _; (with_reducible repeat (first | refine blk_drewN ?_ _ | refine blk_drew ?_ | refine blk_alloc ?_ _)); refine blk_far ?_ NB136_145.out _; (with_reducible repeat (first | refine blk_drewN ?_ _ | refine blk_drew ?_ | refine blk_alloc ?_ _)); refine blk_far ?_ NB136_144.out _; (with_reducible repeat (first | refine blk_drewN ?_ _ | refine blk_drew ?_ | refine blk_alloc ?_ _)); refine blk_far ?_ NB136_144.out _; (with_reducible repeat (first | refine blk_drewN ?_ _ | refine blk_drew ?_ | refine blk_alloc ?_ _)); refine blk_far ?_ NB136_144.out _; (with_reducible repeat (first | refine blk_drewN ?_ _ | refine blk_drew ?_ | refine blk_alloc ?_ _)); refine blk_far ?_ NB136_144.out _; (with_reducible repeat (first | refine blk_drewN ?_ _ | refine blk_drew ?_ | refine blk_alloc ?_ _)); exact BK136.out⟩
          have n2_ : Aside0 (((((((w33.setCell ⟨gb144, 0, none⟩ (.int .i64 t137)).setCell ⟨gb144, 1, none⟩ (.string t138)).setCell ⟨gb144, 2, none⟩ (.int .i64 t139)).setCell ⟨gb144, 3, none⟩ (.int .i64 t140)).setCell ⟨gb145, 0, none⟩ (.int .i64 t142)).setCell ⟨gb145, 1, none⟩ (.int .i64 t143)).heap[gb144]? = some (.cells #[.int .i64 t137, .string t138, .int .i64 t139, .int .i64 t140] 46 (0, 0))) := ⟨by (with_reducible repeat (first | refine blk_drewN ?_ _ | refine blk_drew ?_ | refine blk_alloc ?_ _)); refine blk_far ?_ NB144_145.out _; (with_reducible repeat (first | refine blk_drewN ?_ _ | refine blk_drew ?_ | refine blk_alloc ?_ _)); refine blk_far ?_ NB144_145.out _; (with_reducible repeat (first | refine blk_drewN ?_ _ | refine blk_drew ?_ | refine blk_alloc ?_ _)); refine blk_put (cs := #[.int .i64 t137, .string t138, .int .i64 t139, .int .i64 0]) ?_ 3 _ rfl; (with_reducible repeat (first | refine blk_drewN ?_ _ | refine blk_drew ?_ | refine blk_alloc ?_ _)); refine blk_put (cs := #[.int .i64 t137, .string t138, .int .i64 0, .int .i64 0]) ?_ 2 _ rfl; (with_reducible repeat (first | refine blk_drewN ?_ _ | refine blk_drew ?_ | refine blk_alloc ?_ _)); refine blk_put (cs := #[.int .i64 t137, .string (⟨#[]⟩ : ByteArray), .int .i64 0, .int .i64 0]) ?_ 1 _ rfl; (with_reducible repeat (first | refine blk_drewN ?_ _ | refine blk_drew ?_ | refine blk_alloc ?_ _)); refine blk_put (cs := #[.int .i64 0, .string (⟨#[]⟩ : ByteArray), .int .i64 0, .int .i64 0]) ?_ 0 _ rfl; (with_reducible repeat (first | refine blk_drewN ?_ _ | refine blk_drew ?_ | refine blk_alloc ?_ _)); exact BK144.out⟩
          have n3_ : Aside0 (((((((w33.setCell ⟨gb144, 0, none⟩ (.int .i64 t137)).setCell ⟨gb144, 1, none⟩ (.string t138)).setCell ⟨gb144, 2, none⟩ (.int .i64 t139)).setCell ⟨gb144, 3, none⟩ (.int .i64 t140)).setCell ⟨gb145, 0, none⟩ (.int .i64 t142)).setCell ⟨gb145, 1, none⟩ (.int .i64 t143)).heap[gb145]? = some (.cells #[.int .i64 t142, .int .i64 t143] 26 (0, 0))) := ⟨by (with_reducible repeat (first | refine blk_drewN ?_ _ | refine blk_drew ?_ | refine blk_alloc ?_ _)); refine blk_put (cs := #[.int .i64 t142, .int .i64 0]) ?_ 1 _ rfl; (with_reducible repeat (first | refine blk_drewN ?_ _ | refine blk_drew ?_ | refine blk_alloc ?_ _)); refine blk_put (cs := #[.int .i64 0, .int .i64 0]) ?_ 0 _ rfl; (with_reducible repeat (first | refine blk_drewN ?_ _ | refine blk_drew ?_ | refine blk_alloc ?_ _)); refine blk_far ?_ NB145_144.out _; (with_reducible repeat (first | refine blk_drewN ?_ _ | refine blk_drew ?_ | refine blk_alloc ?_ _)); refine blk_far ?_ NB145_144.out _; (with_reducible repeat (first | refine blk_drewN ?_ _ | refine blk_drew ?_ | refine blk_alloc ?_ _)); refine blk_far ?_ NB145_144.out _; (with_reducible repeat (first | refine blk_drewN ?_ _ | refine blk_drew ?_ | refine blk_alloc ?_ _)); refine blk_far ?_ NB145_144.out _; (with_reducible repeat (first | refine blk_drewN ?_ _ | refine blk_drew ?_ | refine blk_alloc ?_ _)); exact BK145.out⟩
          have n4_ : Aside0 (Below w.heap.size w ((((((w33.setCell ⟨gb144, 0, none⟩ (.int .i64 t137)).setCell ⟨gb144, 1, none⟩ (.string t138)).setCell ⟨gb144, 2, none⟩ (.int .i64 t139)).setCell ⟨gb144, 3, none⟩ (.int .i64 t140)).setCell ⟨gb145, 0, none⟩ (.int .i64 t142)).setCell ⟨gb145, 1, none⟩ (.int .i64 t143))) := ⟨bl3_ HB.out GE136.out GE144.out GE145.out⟩
          (try clear HO_4)
          (try clear BK136)
          (try clear BK144)
          (try clear BK145)
          (try clear HB)
          generalize ((((((w33.setCell ⟨gb144, 0, none⟩ (.int .i64 t137)).setCell ⟨gb144, 1, none⟩ (.string t138)).setCell ⟨gb144, 2, none⟩ (.int .i64 t139)).setCell ⟨gb144, 3, none⟩ (.int .i64 t140)).setCell ⟨gb145, 0, none⟩ (.int .i64 t142)).setCell ⟨gb145, 1, none⟩ (.int .i64 t143)) = w39 at n0_ n1_ n2_ n3_ n4_ ⊢
          have HO_4 := n0_
          have BK136 := n1_
          have BK144 := n2_
          have BK145 := n3_
          have HB := n4_
          clear n0_ n1_ n2_ n3_ n4_
          have n0_ := Aside0.mk (Kd.R_drew HO_4.out)
          have n1_ := Aside0.mk (blk_drew BK136.out)
          have n2_ := Aside0.mk (blk_drew BK144.out)
          have n3_ := Aside0.mk (blk_drew BK145.out)
          have n4_ := Aside0.mk (below_drew1 HB.out)
          clear HO_4
          clear BK136
          clear BK144
          clear BK145
          clear HB
          have HO_4 := n0_
          have BK136 := n1_
          have BK144 := n2_
          have BK145 := n3_
          have HB := n4_
          clear n0_ n1_ n2_ n3_ n4_
          refine start_ (n := 3) (S := fun w' => w'.cell? ⟨gb145, 0, none⟩ = some (.int .i64 t142) ∧ w'.cell? ⟨gb145, 1, none⟩ = some (.int .i64 t143)) (ds := []) #[false, false, false] (by kernel_rfl) rfl rfl ⟨(blk_cell BK145.out 0).trans rfl, (blk_cell BK145.out 1).trans rfl⟩ (fun hHeld => ?_)
          generalize w39.drew = w40 at HO_4 BK136 BK144 BK145 HB hHeld ⊢
          refine pure_ (i := 1) (N := some 2) (v := ?_) (a' := ?_) #[false, true, false] rfl rfl (by kernel_rfl) (fun _ _ _ h => h) (Or.inl ⟨by rfl, ?_⟩) ?_ ?_
          rotate_left
          · intro w'
            go_simp
            with_reducible rfl
          rotate_left
          · simp only [Act.put, List.setIfInBounds_toArray, List.set_cons_zero, List.set_cons_succ, i64_w, i32_w]
            rfl
          refine take_ (i := 0) (N := some 23) (v := ?_) (a' := ?_) #[true, true, false] rfl rfl (by kernel_rfl) (fun _ _ _ h => h) (Or.inl ⟨by rfl, ?_⟩) hHeld ?_ ?_
          rotate_left
          · rintro w' ⟨s0, s1⟩
            go_simp
            with_reducible rfl
          rotate_left
          · simp only [Act.put, List.setIfInBounds_toArray, List.set_cons_zero, List.set_cons_succ, i64_w, i32_w]
            rfl
          refine one_ (i := 2) (N := none) #[true, true, true] rfl rfl (by kernel_rfl) (by decide) (fun K hK => ?_)
          have hs41 : w40.cell? ⟨gb136, 0, none⟩ = some (.int .i64 x137000_1) := (blk_cell BK136.out 0).trans rfl
          have hfs41 := blk_frozen BK136.out 0
          have hns41_1 := NB144_136.out
          have hns41_2 := NB145_136.out
          have hms41_1 := NB136_144.out
          have hms41_2 := NB136_145.out
          have hs42 : w40.cell? ⟨gb136, 1, none⟩ = some (.int .i64 x137001_1) := (blk_cell BK136.out 1).trans rfl
          have hfs42 := blk_frozen BK136.out 1
          have hns42_1 := NB144_136.out
          have hns42_2 := NB145_136.out
          have hms42_1 := NB136_144.out
          have hms42_2 := NB136_145.out
          refine skip_ (w1 := ?_) (by rfl) rfl ?_ ?_
          rotate_left
          · go_simp
            rfl
          refine hK.out _ _ ⟨((cell_far (p := ⟨gb136, _, none⟩) NB145_136.out _).trans (((cell_far (p := ⟨gb136, _, none⟩) NB145_136.out _).trans (hHeld.1)))), ((cell_far (p := ⟨gb136, _, none⟩) NB145_136.out _).trans (((cell_far (p := ⟨gb136, _, none⟩) NB145_136.out _).trans (hHeld.2))))⟩ (fun hHeld => ?_)
          clear hK K
          refine done_ (by kernel_rfl) ?_
          try go_wp2
          iterate 3 (try (go_step3; (try go_wp2)))
          (try rw [Exit.noGoto_ret])
          refine bodyPost_ret (results_tc rfl _ _ gb136 26 #[.int .i64 t142, .int .i64 t143] (0, 0) _ rfl (by (with_reducible repeat (first | refine blk_drewN ?_ _ | refine blk_drew ?_ | refine blk_alloc ?_ _)); refine blk_put (cs := #[.int .i64 t142, .int .i64 x137001_1]) ?_ 1 _ rfl; (with_reducible repeat (first | refine blk_drewN ?_ _ | refine blk_drew ?_ | refine blk_alloc ?_ _)); refine blk_put (cs := #[.int .i64 x137000_1, .int .i64 x137001_1]) ?_ 0 _ rfl; (with_reducible repeat (first | refine blk_drewN ?_ _ | refine blk_drew ?_ | refine blk_alloc ?_ _)); exact BK136.out) Tryd.underlying26 rfl (by kernel_rfl)) rfl ?_
          exact ⟨_, er_, by first | exact Kd.R_nil _ _ _ _ _ | exact Kd.N_nil _ _ _ _ _ | exact Kd.V_nil _ _ _ _ _ | exact Kd.Q_nil _ _ _ _ _ | exact Kd.S_nil _ _ _ _ _, bl3_ HB.out GE136.out GE144.out GE145.out⟩
end Go.Proofs.YtkifdadhojbohaaDoor.Pr
namespace Go.Proofs.YtkifdadhojbohaaDoor.Pu
open Go.RowKit Go.Proofs.YtkifdadhojbohaaDoor Go.Proofs.YtkifdadhojbohaaDoor.Pr Go.Proofs.YtkifdadhojbohaaDoorW.PrintWords Go.Proofs.YtkifdadhojbohaaDoorW.PrintLast
theorem run_f (s : ByteArray) (hs : s.size ≤ 1000000) :
    Ev (fun k => lexer_run.f k s) (if (numL (lst s)).2 = 2 then (1, s, 0, 0, wordL (lst s)) else (2, ⟨#[]⟩, (numL (lst s)).1, 0, (numL (lst s)).2)) := by
  unfold lexer_run.f
  refine Ev.bind (number_f s hs) ?_
  by_cases h : (numL (lst s)).2 = 2
  · refine Ev.ifp h ?_
    rw [if_pos h]
    exact Ev.bind (word_f s hs) (Ev.now _)
  · refine Ev.ifn h ?_
    rw [if_neg h]
    exact Ev.now _
/-! ### strings -/
theorem text_loop (s : ByteArray) (hs : s.size ≤ 1000000) (o : Nat) : ∀ (d i : Nat) (l : List UInt8), o < i → i ≤ s.size → s.size - i = d → (lst s).drop i = l →
    (∀ c ∈ ((lst s).take i).drop (o + 1), inStr c = true) →
    Ev (fun k => lexer_text.l0 k s o i) (match l.dropWhile inStr with
      | [] => (0, ⟨#[]⟩, 0, 0, 0, 2)
      | c :: r => if c.toNat = 34 then (3, str (((lst s).take i).drop (o + 1) ++ l.takeWhile inStr), 0, 0, (s.size : Int) - r.length, titleL (((lst s).take i).drop (o + 1) ++ l.takeWhile inStr)) else (0, ⟨#[]⟩, 0, 0, 0, 2)) := by
  intro d
  induction d with
  | zero =>
    intro i l ho hi hd hl hin
    obtain rfl : i = s.size := by omega
    obtain rfl : l = [] := by rw [← hl]; exact List.drop_eq_nil_of_le (by rw [lst_length]; omega)
    refine Ev.succ ?_
    simp only [lexer_text.l0]
    refine Ev.ifn (by omega) (Ev.ifp (by simp) ?_)
    simp only [List.dropWhile_nil]
    exact Ev.now _
  | succ d ih =>
    intro i l ho hi hd hl hin
    cases l with
    | nil => exact absurd (at_nil hi hl) (by omega)
    | cons c l =>
      obtain ⟨h1, h2, h3⟩ := at_cons hl
      refine Ev.succ ?_
      simp only [lexer_text.l0]
      rw [h2, wrap_nat i (by omega), wrap_nat o (by omega)]
      refine Ev.ifp (by omega) (Ev.ifp (by omega) ?_)
      by_cases h34 : c.toNat = 34
      · have hin' : inStr c = false := by simp [inStr, h34]
        refine Ev.ifp (by omega) (Ev.ifn (by omega) (Ev.ifn (by omega) (Ev.ifp (by omega) (Ev.ifp (by omega) (Ev.ifp (by omega) ?_)))))
        have hx : s.extract (((o + 1 : Nat) : Int)).toNat ((i : Int)).toNat = str (((lst s).take i).drop (o + 1)) := by
          apply lst_inj; rw [lst_extract]; rfl
        rw [hx]
        have ht := title_f (str (((lst s).take i).drop (o + 1))) (by rw [size_str, List.length_drop, List.length_take, lst_length]; omega)
        refine Ev.bind ht (Ev.ret ?_)
        rw [List.dropWhile_cons_of_neg (by simp [hin']), List.takeWhile_cons_of_neg (by simp [hin']), List.append_nil]
        simp only [h34, if_true, lst_str]
        have hr : (s.size : Int) - (l.length : Int) = ((i + 1 : Nat) : Int) := by
          rw [← h3, List.length_drop, lst_length]; omega
        rw [hr]
      · refine Ev.ifn (by omega) ?_
        by_cases h10 : c.toNat = 10
        · have hin' : inStr c = false := by simp [inStr, h10]
          refine Ev.ifp (by omega) (Ev.ifn (by omega) (Ev.ret ?_))
          rw [List.dropWhile_cons_of_neg (by simp [hin'])]
          simp only [h34, if_false]
        · have hin' : inStr c = true := by simp [inStr, h34, h10]
          refine Ev.ifn (by omega) ?_
          have htk : ((lst s).take (i + 1)).drop (o + 1) = ((lst s).take i).drop (o + 1) ++ [c] := by
            have e : (lst s).take (i + 1) = (lst s).take i ++ [c] := by
              rw [List.take_succ_eq_append_getElem (by rw [lst_length]; exact h1)]
              congr 2
              have := congrArg (·[0]?) hl
              simp only [List.getElem?_drop, Nat.add_zero, List.getElem?_cons_zero] at this
              exact (List.getElem?_eq_some_iff.1 this).2
            rw [e, List.drop_append_of_le_length (by rw [List.length_take, lst_length]; omega)]
          have := ih (i + 1) l (by omega) (by omega) (by omega) h3 (by
            rw [htk]; intro x hx; rw [List.mem_append] at hx
            rcases hx with hx | hx
            · exact hin x hx
            · simp at hx; subst hx; exact hin')
          rw [htk] at this
          rw [List.dropWhile_cons_of_pos hin', List.takeWhile_cons_of_pos hin']
          simpa only [List.append_assoc, List.singleton_append] using this
theorem text_f (s : ByteArray) (hs : s.size ≤ 1000000) (o : Nat) (l : List UInt8) (ho : o < s.size) (hl : (lst s).drop (o + 1) = l) :
    Ev (fun k => lexer_text.f k s o) ((textL l).kind, str (textL l).text, 0, 0, (if (textL l).kind = 3 then (s.size : Int) - (textL l).rest.length else 0), (textL l).code) := by
  have h := text_loop s hs o _ (o + 1) l (by omega) (by omega) rfl hl (by
    rw [List.drop_eq_nil_of_le (by rw [List.length_take]; omega)]; simp)
  unfold lexer_text.f
  rw [wrap_nat o (by omega)]
  rw [List.drop_eq_nil_of_le (by rw [List.length_take]; omega)] at h
  simp only [List.nil_append] at h
  unfold textL
  cases hd : l.dropWhile inStr with
  | nil => rw [hd] at h; exact h
  | cons c r =>
    rw [hd] at h
    by_cases h34 : c.toNat = 34
    · simp only [h34, if_true] at h ⊢; exact h
    · simp only [h34, if_false] at h ⊢; exact h
/-! ### the next token -/
/-- What lexer.next answers where the rest of the source, blanks and comments taken off, is l. -/
def nextT (n : Nat) (l : List UInt8) : Int × ByteArray × Int × Int × Int × Int × Int :=
  if (tokL l).code = 0 then ((tokL l).kind, str (tokL l).text, (tokL l).n, (n : Int) - l.length, (n : Int) - (tokL l).rest.length, 0, 0)
  else (0, ⟨#[]⟩, 0, 0, 0, (tokL l).code, (n : Int) - l.length)
theorem j2_f (a e c : Int) (k : Int) (x : ByteArray) (m z : Int) : Ev (fun r => lexer_next.j2 r a e c k x m z) (if c = 0 then (k, x, m, a, e, 0, 0) else (0, ⟨#[]⟩, 0, 0, 0, c, a)) := by
  refine Ev.succ ?_
  simp only [lexer_next.j2]
  by_cases h : c = 0
  · exact Ev.ifp h (Ev.ret (by rw [if_pos h]))
  · exact Ev.ifn h (Ev.ret (by rw [if_neg h]))
theorem next_loop (s : ByteArray) (hs : s.size ≤ 1000000) (o : Nat) : ∀ (d i : Nat) (l : List UInt8), o ≤ i → i ≤ s.size → s.size - i = d → (lst s).drop i = l →
    Ev (fun k => lexer_next.l0 k s o i) (let t := ((lst s).take i).drop o ++ l.takeWhile isRunB
      let r := clsL t (l.dropWhile isRunB)
      if r.code = 0 then (r.kind, str r.text, r.n, (o : Int), (s.size : Int) - r.rest.length, 0, 0) else (0, ⟨#[]⟩, 0, 0, 0, r.code, (o : Int))) := by
  have hj1 : ∀ (i : Nat) (l : List UInt8), o ≤ i → i ≤ s.size → (lst s).drop i = l → l.takeWhile isRunB = [] → l.dropWhile isRunB = l → Ev (fun k => lexer_next.j1 k s o i) (let t := ((lst s).take i).drop o ++ l.takeWhile isRunB
      let r := clsL t (l.dropWhile isRunB)
      if r.code = 0 then (r.kind, str r.text, r.n, (o : Int), (s.size : Int) - r.rest.length, 0, 0) else (0, ⟨#[]⟩, 0, 0, 0, r.code, (o : Int))) := by
    intro i l ho hi hl ht hr
    rw [ht, hr]
    refine Ev.succ ?_
    simp only [lexer_next.j1]
    refine Ev.ifp (by omega) (Ev.ifp (by omega) (Ev.ifp (by omega) ?_))
    have hx : s.extract ((o : Int)).toNat ((i : Int)).toNat = str (((lst s).take i).drop o) := by
      apply lst_inj; rw [lst_extract]; rfl
    rw [hx]
    have hrun := run_f (str (((lst s).take i).drop o)) (by rw [size_str, List.length_drop, List.length_take, lst_length]; omega)
    refine Ev.bind hrun ?_
    simp only [lst_str, List.append_nil]
    have hlen : (i : Int) = (s.size : Int) - (l.length : Int) := by rw [← hl, List.length_drop, lst_length]; omega
    unfold clsL
    by_cases h2 : (numL (((lst s).take i).drop o)).2 = 2
    · simp only [h2, if_true, ← hlen]
      exact j2_f _ _ _ _ _ _ _
    · simp only [h2, if_false, ← hlen]
      exact j2_f _ _ _ _ _ _ _
  intro d
  induction d with
  | zero =>
    intro i l ho hi hd hl
    obtain rfl : i = s.size := by omega
    obtain rfl : l = [] := by rw [← hl]; exact List.drop_eq_nil_of_le (by rw [lst_length]; omega)
    refine Ev.succ ?_
    simp only [lexer_next.l0]
    exact Ev.ifn (by omega) (hj1 _ [] ho hi hl rfl rfl)
  | succ d ih =>
    intro i l ho hi hd hl
    cases l with
    | nil => exact absurd (at_nil hi hl) (by omega)
    | cons c l =>
      obtain ⟨h1, h2, h3⟩ := at_cons hl
      refine Ev.succ ?_
      simp only [lexer_next.l0]
      rw [h2, wrap_nat i (by omega)]
      refine Ev.ifp (by omega) (Ev.ifp (by omega) (Ev.val (isRun_f c) ?_))
      by_cases hr : isRunB c = true
      · refine Ev.ifp hr ?_
        have htk : ((lst s).take (i + 1)).drop o = ((lst s).take i).drop o ++ [c] := by
          have e : (lst s).take (i + 1) = (lst s).take i ++ [c] := by
            rw [List.take_succ_eq_append_getElem (by rw [lst_length]; exact h1)]
            congr 2
            have := congrArg (·[0]?) hl
            simp only [List.getElem?_drop, Nat.add_zero, List.getElem?_cons_zero] at this
            exact (List.getElem?_eq_some_iff.1 this).2
          rw [e, List.drop_append_of_le_length (by rw [List.length_take, lst_length]; omega)]
        have := ih (i + 1) l (by omega) (by omega) (by omega) h3
        rw [htk] at this
        rw [List.takeWhile_cons_of_pos hr, List.dropWhile_cons_of_pos hr]
        simpa only [List.append_assoc, List.singleton_append] using this
      · refine Ev.ifn hr ?_
        exact hj1 i (c :: l) ho hi hl (List.takeWhile_cons_of_neg hr) (List.dropWhile_cons_of_neg hr)
theorem next_f (s : ByteArray) (hs : s.size ≤ 1000000) (i : Nat) (hi : i ≤ s.size) : Ev (fun k => lexer_next.f k s i) (nextT s.size (skipL false ((lst s).drop i))) := by
  unfold lexer_next.f
  refine Ev.bind (skip_f s hs i hi) ?_
  have hsuf : ∃ j, j ≤ s.size ∧ (lst s).drop j = skipL false ((lst s).drop i) ∧ (s.size : Int) - (skipL false ((lst s).drop i)).length = (j : Nat) := by
    have hsx : ∀ (l : List UInt8) (b : Bool), skipL b l <:+ l := by
      intro l
      induction l with
      | nil => intro b; cases b <;> exact List.suffix_refl _
      | cons c l ih =>
        intro b
        cases b
        · unfold skipL
          split
          · exact (ih true).trans (List.suffix_cons _ _)
          · split
            · exact (ih false).trans (List.suffix_cons _ _)
            · exact List.suffix_refl _
        · unfold skipL
          split
          · exact (ih false).trans (List.suffix_cons _ _)
          · exact (ih true).trans (List.suffix_cons _ _)
    have h1 := (hsx ((lst s).drop i) false).trans (List.drop_suffix i (lst s))
    obtain ⟨t, ht⟩ := h1
    refine ⟨t.length, ?_, ?_, ?_⟩
    · have := congrArg List.length ht; rw [List.length_append, lst_length] at this; omega
    · conv => lhs; rw [← ht]
      exact List.drop_left
    · have := congrArg List.length ht; rw [List.length_append, lst_length] at this; omega
  obtain ⟨j, hj, hl, he⟩ := hsuf
  rw [he]
  generalize skipL false ((lst s).drop i) = l at hl he
  unfold nextT
  rw [he]
  cases l with
  | nil =>
    have := at_nil hj hl
    subst this
    exact Ev.ifp rfl (Ev.ret (by simp [tokL, str]))
  | cons c l =>
    obtain ⟨h1, h2, h3⟩ := at_cons hl
    refine Ev.ifn (by omega) (Ev.ifp (by omega) (Ev.ifp (by omega) ?_))
    rw [h2, wrap_nat j (by omega)]
    refine Ev.val (isRun_f c) ?_
    by_cases hr : isRunB c = true
    · refine Ev.ifp hr ?_
      have h := next_loop s hs j _ (j + 1) l (by omega) (by omega) rfl h3
      have ht : ((lst s).take (j + 1)).drop j = [c] := by
        rw [List.take_succ_eq_append_getElem (by rw [lst_length]; exact h1), List.drop_append_of_le_length (by rw [List.length_take, lst_length]; omega), List.drop_eq_nil_of_le (by rw [List.length_take]; omega)]
        have := congrArg (·[0]?) hl
        simp only [List.getElem?_drop, Nat.add_zero, List.getElem?_cons_zero] at this
        rw [(List.getElem?_eq_some_iff.1 this).2]; rfl
      rw [ht] at h
      have ht2 : tokL (c :: l) = clsL (c :: l.takeWhile isRunB) (l.dropWhile isRunB) := by
        unfold tokL; dsimp only; rw [if_pos hr]
      rw [ht2]
      exact h
    · refine Ev.ifn hr ?_
      have hlen : ((j + 1 : Nat) : Int) = (s.size : Int) - (l.length : Int) := by rw [← h3, List.length_drop, lst_length]; omega
      by_cases h34 : c.toNat = 34
      · refine Ev.ifp (by omega) (Ev.bind (text_f s hs j l h1 h3) ?_)
        have ht2 : tokL (c :: l) = textL l := by
          unfold tokL; dsimp only; rw [if_neg hr, if_pos h34]
        rw [ht2]
        have hj2 := j2_f (j : Int) (if (textL l).kind = 3 then (s.size : Int) - (textL l).rest.length else 0) (textL l).code (textL l).kind (str (textL l).text) 0 0
        have hn : (textL l).n = 0 ∧ ((textL l).code = 0 → (textL l).kind = 3) := by
          unfold textL
          split
          · exact ⟨rfl, by decide⟩
          · split
            · exact ⟨rfl, fun _ => rfl⟩
            · exact ⟨rfl, by decide⟩
        rw [hn.1]
        by_cases hc : (textL l).code = 0
        · rw [if_pos hc] at hj2 ⊢
          rw [if_pos (hn.2 hc)] at hj2 ⊢
          exact hj2
        · rw [if_neg hc] at hj2 ⊢
          exact hj2
      · refine Ev.ifn (by omega) (Ev.val kinds_f (Ev.ifp (by omega) (Ev.ifp (byte_lt c) ?_)))
        rw [at_byte]
        by_cases h5 : kindOf c.toNat = 5
        · have ht2 : tokL (c :: l) = ⟨4, [c], 0, l, 0⟩ := by
            unfold tokL; dsimp only; rw [if_neg hr, if_neg h34, if_pos h5]
          rw [ht2]
          refine Ev.ifp (by omega) (Ev.ifp (by omega) (Ev.ifp (by omega) ?_))
          have hx : s.extract ((j : Int)).toNat (((j + 1 : Nat) : Int)).toNat = str [c] := by
            apply lst_inj; rw [lst_extract, lst_str]
            show ((lst s).take (j + 1)).drop j = [c]
            rw [List.take_succ_eq_append_getElem (by rw [lst_length]; exact h1), List.drop_append_of_le_length (by rw [List.length_take, lst_length]; omega), List.drop_eq_nil_of_le (by rw [List.length_take]; omega)]
            have := congrArg (·[0]?) hl
            simp only [List.getElem?_drop, Nat.add_zero, List.getElem?_cons_zero] at this
            rw [(List.getElem?_eq_some_iff.1 this).2]; rfl
          rw [hx, hlen]
          simpa using j2_f (j : Int) ((s.size : Int) - (l.length : Int)) 0 4 (str [c]) 0 0
        · have ht2 : tokL (c :: l) = ⟨0, [], 0, [], 2⟩ := by
            unfold tokL; dsimp only; rw [if_neg hr, if_neg h34, if_neg h5]
          rw [ht2]
          refine Ev.ifn (by omega) ?_
          simpa using j2_f (j : Int) ((j + 1 : Nat) : Int) 2 0 (⟨#[]⟩ : ByteArray) 0 0
/-! ### all tokens -/
theorem skipL_suffix : ∀ (l : List UInt8) (b : Bool), skipL b l <:+ l := by
  intro l
  induction l with
  | nil => intro b; cases b <;> exact List.suffix_refl _
  | cons c l ih =>
    intro b
    cases b
    · unfold skipL
      split
      · exact (ih true).trans (List.suffix_cons _ _)
      · split
        · exact (ih false).trans (List.suffix_cons _ _)
        · exact List.suffix_refl _
    · unfold skipL
      split
      · exact (ih false).trans (List.suffix_cons _ _)
      · exact (ih true).trans (List.suffix_cons _ _)
theorem tok_suffix (l : List UInt8) (hc : (tokL l).code = 0) : (tokL l).rest <:+ l ∧ (l ≠ [] → (tokL l).rest.length < l.length ∧ (tokL l).kind ≠ 5) := by
  cases l with
  | nil => exact ⟨List.suffix_refl _, fun h => absurd rfl h⟩
  | cons c l =>
    unfold tokL at hc ⊢
    dsimp only at hc ⊢
    by_cases hr : isRunB c = true
    · rw [if_pos hr] at hc ⊢
      have hsx := List.dropWhile_suffix isRunB (l := l)
      have hl := hsx.length_le
      unfold clsL at hc ⊢
      split
      · exact ⟨hsx.trans (List.suffix_cons _ _), fun _ => ⟨by simp; omega, by simp⟩⟩
      · exact ⟨hsx.trans (List.suffix_cons _ _), fun _ => ⟨by simp; omega, by simp⟩⟩
    · rw [if_neg hr] at hc ⊢
      by_cases h34 : c.toNat = 34
      · rw [if_pos h34] at hc ⊢
        unfold textL at hc ⊢
        have hsx := List.dropWhile_suffix inStr (l := l)
        cases hd : l.dropWhile inStr with
        | nil => rw [hd] at hc; simp at hc
        | cons e r =>
          rw [hd] at hc hsx
          dsimp only at hc ⊢
          have hl := hsx.length_le
          by_cases he : e.toNat = 34
          · rw [if_pos he] at hc ⊢
            exact ⟨(List.suffix_cons _ _).trans (hsx.trans (List.suffix_cons _ _)), fun _ => ⟨by simp at hl ⊢; omega, by simp⟩⟩
          · rw [if_neg he] at hc
            exact absurd hc (by decide)
      · rw [if_neg h34] at hc ⊢
        by_cases h5 : kindOf c.toNat = 5
        · rw [if_pos h5]
          exact ⟨List.suffix_cons _ _, fun _ => ⟨by simp, by simp⟩⟩
        · rw [if_neg h5] at hc
          exact absurd hc (by decide)
/-- A token: kind, text, number, and how many bytes stand from its first on. -/
structure Tok where
  kind : Int
  text : List UInt8
  n : Int
  rem : Nat
/-- The tokens of what is left, or the first fault and how many bytes stand from there on. -/
def lexL : Nat → List UInt8 → Except (Int × Nat) (List Tok)
  | 0, _ => .ok []
  | f + 1, l =>
    let l1 := skipL false l
    if (tokL l1).code ≠ 0 then .error ((tokL l1).code, l1.length)
    else if l1 = [] then .ok [⟨5, [], 0, 0⟩]
    else match lexL f (tokL l1).rest with
      | .error e => .error e
      | .ok ts => .ok (⟨(tokL l1).kind, (tokL l1).text, (tokL l1).n, l1.length⟩ :: ts)
/-- A token as the program has it, in a source of n bytes. -/
def Tok.at_ (n : Nat) (t : Tok) : S46 := ⟨t.kind, str t.text, t.n, (n : Int) - t.rem⟩
def lexAns (n : Nat) (acc : List S46) : Except (Int × Nat) (List Tok) → List S46 × Int × Int
  | .error e => ([], e.1, (n : Int) - e.2)
  | .ok ts => (acc ++ ts.map (Tok.at_ n), 0, 0)
theorem suffix_at {s : ByteArray} {l : List UInt8} (h : l <:+ lst s) : ∃ j, j ≤ s.size ∧ (lst s).drop j = l ∧ (s.size : Int) - l.length = (j : Nat) := by
  obtain ⟨t, ht⟩ := h
  refine ⟨t.length, ?_, ?_, ?_⟩
  · have := congrArg List.length ht; rw [List.length_append, lst_length] at this; omega
  · conv => lhs; rw [← ht]
    exact List.drop_left
  · have := congrArg List.length ht; rw [List.length_append, lst_length] at this; omega
/-- The loop over the tokens, for whatever function answers the next one. -/
theorem lex_any (s : ByteArray) (hs : s.size ≤ 1000000) (nx : Nat → Int → Option (Int × ByteArray × Int × Int × Int × Int × Int))
    (hnx : ∀ i : Nat, i ≤ s.size → Ev (fun k => nx k i) (nextT s.size (skipL false ((lst s).drop i))))
    (lp : Nat → List S46 → Int → Option (List S46 × Int × Int))
    (hlp : ∀ k a i, lp (k + 1) a i = (nx k i).bind fun b => (if b.2.2.2.2.2.1 = 0 then (if a.length < 3518437208883 then ((some (a ++ [(⟨b.1, b.2.1, b.2.2.1, b.2.2.2.1⟩ : S46)] : List (S46))).bind fun y => (if b.1 = 5 then (some (y, 0, 0)) else (lp k y b.2.2.2.2.1))) else (none)) else (some (([] : List (S46)), b.2.2.2.2.2.1, b.2.2.2.2.2.2)))) :
    ∀ (f : Nat) (i : Nat) (l : List UInt8) (acc : List S46), i ≤ s.size → (lst s).drop i = l → l.length < f → acc.length ≤ i → Ev (fun k => lp k acc i) (lexAns s.size acc (lexL f l)) := by
  intro f
  induction f with
  | zero => intro i l acc hi hl hf; omega
  | succ f ih =>
    intro i l acc hi hl hf ha
    refine Ev.succ ?_
    simp only [hlp]
    have hn := hnx i hi
    rw [hl] at hn
    refine Ev.bind hn ?_
    have hsk := skipL_suffix l false
    unfold lexL
    dsimp only
    generalize hl1 : skipL false l = l1 at hsk ⊢
    unfold nextT
    by_cases hc : (tokL l1).code = 0
    · rw [if_pos hc, if_neg (by simp [hc])]
      refine Ev.ifp rfl (Ev.ifp (by omega) ?_)
      simp only [Option.bind_some]
      by_cases h0 : l1 = []
      · rw [if_pos h0]
        subst h0
        exact Ev.ifp rfl (Ev.ret (by simp [lexAns, Tok.at_, tokL]))
      · rw [if_neg h0]
        obtain ⟨h1, h2⟩ := tok_suffix l1 hc
        obtain ⟨h3, h4⟩ := h2 h0
        refine Ev.ifn h4 ?_
        have hls : l <:+ lst s := by rw [← hl]; exact List.drop_suffix _ _
        obtain ⟨j, hj1, hj2, hj3⟩ := suffix_at (h1.trans (hsk.trans hls))
        have hle := hsk.length_le
        have hll : l.length = s.size - i := by rw [← hl, List.length_drop, lst_length]
        rw [hj3]
        have := ih j _ (acc ++ [(⟨(tokL l1).kind, str (tokL l1).text, (tokL l1).n, (s.size : Int) - l1.length⟩ : S46)]) hj1 hj2 (by omega) (by simp; omega)
        cases hx : lexL f (tokL l1).rest with
        | error e => rw [hx] at this; exact this
        | ok ts =>
          rw [hx] at this
          simpa [lexAns, Tok.at_] using this
    · rw [if_neg hc, if_pos hc]
      exact Ev.ifn hc (Ev.ret rfl)
theorem Lex_f (s : ByteArray) (hs : s.size ≤ 65536) : Ev (fun k => lexer_Lex.f k s) (lexAns s.size [] (lexL (s.size + 1) (lst s))) := by
  unfold lexer_Lex.f
  refine Ev.ifn (by omega) ?_
  have h := lex_any s (by omega) (fun k i => lexer_next.f k s i) (fun i hi => next_f s (by omega) i hi) (fun k a i => lexer_Lex.l0 k s a i) (fun k a i => by simp only [lexer_Lex.l0]) (s.size + 1) 0 (lst s) [] (by omega) rfl (by rw [lst_length]; omega) (by simp)
  exact h
end Go.Proofs.YtkifdadhojbohaaDoor.Pu
