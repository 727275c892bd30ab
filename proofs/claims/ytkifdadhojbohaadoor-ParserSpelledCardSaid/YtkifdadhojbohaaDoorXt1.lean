/- Joined out of the texts of this proof that bear the names PrE1 PrG22 PrF21: what each shows stands over it there. -/
import Derived.Test.YtkifdadhojbohaaDoorXk1
import Derived.Test.YtkifdadhojbohaaDoorXe1
import Derived.Test.YtkifdadhojbohaaDoorXc1
import Derived.Test.YtkifdadhojbohaaDoorXa1
import Derived.Test.YtkifdadhojbohaaDoorXs1
set_option linter.unusedVariables false
set_option linter.unusedSimpArgs false
namespace Go.Proofs.YtkifdadhojbohaaDoor.Pr
open Go.Proofs.YtkifdadhojbohaaDoor
open Go.RowKit Go.Proofs.YtkifdadhojbohaaDoorW.PrintWords Go.Proofs.YtkifdadhojbohaaDoorW.PrintLast Go.Proofs.YtkifdadhojbohaaDoorW.PrintMore
attribute [local go_sem] max2_int min2_int max_two min_two max_three min_three max_four min_four   -- for this text's walks alone
set_option linter.unusedVariables false
set_option linter.unusedSimpArgs false
theorem eqA26 (d : Nat) (w : World) (x0 y0 : Int) (x1 y1 : Int) :
  (Op.equalIn (d + 2) 26 (.agg #[.int .i64 x0, .int .i64 x1]) (.agg #[.int .i64 y0, .int .i64 y1])).run Tryd.prog w = .ok (x0 == y0 && (x1 == y1)) w := by
 refine eqA_of Tryd.underlying26 (by kernel_rfl) ?_
 refine eqf_cons (by rfl) (by go_simp; rfl) (by go_simp; rfl) (by go_simp) ?_
 exact eqf_last (by rfl) (by go_simp; rfl) (by go_simp; rfl) (by go_simp)
end Go.Proofs.YtkifdadhojbohaaDoor.Pr
namespace Go.Proofs.YtkifdadhojbohaaDoor.Pr
open Go.Proofs.YtkifdadhojbohaaDoor
open Go.RowKit Go.Proofs.YtkifdadhojbohaaDoorW.PrintWords Go.Proofs.YtkifdadhojbohaaDoorW.PrintLast Go.Proofs.YtkifdadhojbohaaDoorW.PrintMore
set_option linter.unusedVariables false
set_option linter.unusedSimpArgs false
/-- Parse. -/
def parser_Parse.f (k : Nat) (a0 : ByteArray) : Option ((List (S41)) × Int × Int) := (lexer_Lex.f k a0).bind fun b => (if b.2.1 = 0 then ((parser_entries.f k b.1 0 0 0 0).bind fun e => (if e.2.2.1 = 0 then (some (e.1, 0, 0)) else (some (([] : List (S41)), e.2.2.1, e.2.2.2)))) else (some (([] : List (S41)), b.2.1, b.2.2)))
theorem parser_Parse.mono : ∀ a0 k, LeO (parser_Parse.f k a0) (parser_Parse.f (k + 1) a0) := by
 intro a0 k
 unfold parser_Parse.f
 repeat' first
  | exact lexer_Lex.mono _ _
  | exact parser_entries.mono _ _ _ _ _ _
  | exact LeO.refl _
  | exact LeO.none _
  | refine LeO.ite ?_ ?_
  | refine LeO.bind ?_ (fun _ => ?_)
set_option maxHeartbeats 8000000 in
set_option maxRecDepth 100000 in
theorem parser_Parse.calls (k : Nat) (a0 : ByteArray) (r1 : List (S41)) (r2 : Int) (r3 : Int) (w : World) (h : parser_Parse.f k a0 = some (r1, r2, r3)) :
  Calls Tryd.prog 22 #[.string a0] w fun e w' => ∃ v0_ : Value, e = .returned (.tuple #[v0_, .agg #[.int .i64 r2, .int .i64 r3]]) ∧ Kd.R k41 41 w' w.heap.size (fun _ => True) v0_ r1 ∧ Below w.heap.size w w' := by
 have hu26 := Tryd.underlying26
 have hu41 := Tryd.underlying41
 have hu69 := Tryd.underlying69
 have HB := Aside0.mk (Below.refl w.heap.size w)
 have H : ((lexer_Lex.f k a0).bind fun b => (if b.2.1 = 0 then ((parser_entries.f k b.1 0 0 0 0).bind fun e => (if e.2.2.1 = 0 then (some (e.1, 0, 0)) else (some (([] : List (S41)), e.2.2.1, e.2.2.2)))) else (some (([] : List (S41)), b.2.1, b.2.2)))) = some (r1, r2, r3) := h
 clear h
 replace H := Option.bind_eq_some_iff.mp H
 obtain ⟨⟨t1, t2, t3⟩, A20, H⟩ := H
 (try dsimp only at H)
 have A2 := Aside0.mk A20
 clear A20
 by_cases c3 : t2 = 0
 ·
  rw [if_pos c3] at H
  have c3b0 := beq_iff_eq.mpr c3
  have c3b1 := bne_eq_false_iff_eq.mpr c3
  clear c3
  replace H := Option.bind_eq_some_iff.mp H
  obtain ⟨⟨e1, e2, e3, e4⟩, A30, H⟩ := H
  (try dsimp only at H)
  have A3 := Aside0.mk A30
  clear A30
  by_cases c4 : e3 = 0
  ·
   rw [if_pos c4] at H
   have c4b0 := beq_iff_eq.mpr c4
   have c4b1 := bne_eq_false_iff_eq.mpr c4
   clear c4
   simp only [Option.some.injEq, Prod.mk.injEq] at H
   obtain ⟨rfl, rfl, rfl⟩ := H
   go_enter Tryd.func22, Tryd.ntmps22
   try go_wp2_with (first | ((with_reducible refine gate_dst (N := 3) rfl ?_); refine bx_ (N := 3) (cs := #[.int .i64 0, .int .i64 0]) (t := 26) ?_; intro gb3 hg w4 hbox hb; have n0_ := Aside0.mk (below_step (bl_ HB.out) hb); have n1_ := Aside0.mk (hbox); have n3_ := Aside0.mk (bz_ (w := w) hg (bl_ HB.out)); clear HB; have HB := n0_; have BK3 := n1_; have GE3 := n3_; clear n0_ n1_ n3_; clear hb hbox hg) | ((with_reducible refine gate_callee (f := 25) rfl ?_); refine goesL_ (some 10) rfl rfl Tryd.func25 (by kernel_rfl) rfl #[.string a0] rfl ga_ ?_; (with_reducible refine (lexer_Lex.calls k a0 t1 t2 t3 _ A2.out).mono ?_); rintro e w5 ⟨v1, rfl, ho0, hb⟩; refine ⟨_, rfl, ?_⟩; refine cut3_ (Kd.R_lower ho0 (below_size (bl1_ HB.out GE3.out))) (bb_ BK3.out hb) (below_step (bl1_ HB.out GE3.out) hb) ?_; clear BK3 HB; intro HO1 BK3 HB; (try clear hb); (try clear ho0)) | ((with_reducible refine gate_dst (N := 5) rfl ?_); refine bx_ (N := 5) (cs := #[.int .i64 0, .int .i64 0]) (t := 26) ?_; intro gb5 hg w55 hbox hb; have n0_ := Aside0.mk (Kd.R_below (rR_ HO1.out) hb); have n1_ := Aside0.mk (bb_ BK3.out hb); have n2_ := Aside0.mk (below_step (bl1_ HB.out GE3.out) hb); have n3_ := Aside0.mk (hbox); have n5_ := Aside0.mk (bz_ (w := w) hg (bl1_ HB.out GE3.out)); have n6_ := Aside0.mk (nl_ hg BK3.out); have n7_ := Aside0.mk (ng_ hg BK3.out); clear HO1; clear BK3; clear HB; have HO1 := n0_; have BK3 := n1_; have HB := n2_; have BK5 := n3_; have GE5 := n5_; have NB3_5 := n6_; have NB5_3 := n7_; clear n0_ n1_ n2_ n3_ n5_ n6_ n7_; clear hb hbox hg; have hnb56 := NB5_3.out; have hnc56 := NB3_5.out; obtain ⟨hcz57_0, hcz57_1, hfz57_0, hfz57_1⟩ := cq2_ BK5.out) | ((with_reducible refine gate_store (t := 26) (p := 5) rfl ?_); refine store_event (t := 26) (p := 5) (v := ?vo_w58) (w1 := ((w55.setCell ⟨gb5, 0, none⟩ (.int .i64 t2)).setCell ⟨gb5, 1, none⟩ (.int .i64 t3))) ?hg ?ho ?hn ?hr ?_; (case ho => rfl); (case hg => rfl); (case hn => rfl); (case hr => first | (go_simp; done) | (go_simp; rfl)); intro w58 hw; have n0_ : Aside0 (Kd.R k46 46 w58 w.heap.size (fun _ => True) v1 t1) := ⟨by rw [hw]; exact Kd.R_mono (Kd.R_far (p := ⟨gb5, 1, none⟩) (Kd.R_far (p := ⟨gb5, 0, none⟩) (Kd.R_types HO1.out BK5.out (by decide)) (fun _ hk => hk.2) (.int .i64 t2)) (fun _ hk => hk.2) (.int .i64 t3)) (fun _ hk => trivial)⟩; have n1_ : Aside0 (w58.heap[gb3]? = some (.cells #[.int .i64 0, .int .i64 0] 26 (0, 0))) := ⟨by rw [hw]; refine far2_ ?_ NB3_5.out; exact BK3.out⟩; have n2_ : Aside0 (w58.heap[gb5]? = some (.cells #[.int .i64 t2, .int .i64 t3] 26 (0, 0))) := ⟨by rw [hw]; refine blk_put (cs := #[.int .i64 t2, .int .i64 0]) ?_ 1 _ rfl; refine blk_put (cs := #[.int .i64 0, .int .i64 0]) ?_ 0 _ rfl; exact BK5.out⟩; have n3_ : Aside0 (Below w.heap.size w w58) := ⟨by rw [hw]; repeat (first | (with_reducible first | exact HB.out | refine below_set ?_ GE3.out | refine below_set ?_ GE5.out) | exact HB.out)⟩; clear hw; clear HO1 BK3 BK5 HB; (try clear hcz57_0 hcz57_1 hfz57_0 hfz57_1); have HO1 := n0_; have BK3 := n1_; have BK5 := n2_; have HB := n3_; clear n0_ n1_ n2_ n3_; have hl5_0 : w58.cell? ⟨gb5, 0, none⟩ = some (.int .i64 t2) := (blk_cell BK5.out 0).trans rfl; have hl5_1 : w58.cell? ⟨gb5, 1, none⟩ = some (.int .i64 t3) := (blk_cell BK5.out 1).trans rfl; obtain ⟨Ao, co, eo⟩ := Kd.R_slice HO1.out; subst eo; have HC := Aside0.mk (Kd.R_reads' HO1.out).2.2; have HB58 := HB) | ((with_reducible refine gate_dst (N := 19) rfl ?_); refine bx_ (N := 19) (cs := #[.slice Ao t1.length co, .int .i64 0, .int .i64 0, .int .i64 0]) (t := 69) ?_; intro g hg w60 hbox hb; have n1_ := Aside0.mk (blk_below (g := gb3) (o := .cells #[.int .i64 0, .int .i64 0] 26 (0, 0)) BK3.out hb); have n2_ := Aside0.mk (below_step HB.out hb); have n3_ : Aside0 (IsS69 w58 w60 g t1 0 0 0) := ⟨⟨Ao, co, hbox, Nat.le_of_eq hg.symm, HC.out⟩⟩; have n4_ : Aside0 (Below w58.heap.size w58 w60) := ⟨hb⟩; have n5_ : Aside0 (w.heap.size ≤ g) := ⟨by rw [hg]; exact below_size HB.out⟩; have n6_ : Aside0 (g ≠ gb3) := ⟨by rw [hg]; exact Nat.ne_of_gt (blk_lt BK3.out)⟩; clear BK3 HB; have BK3 := n1_; have HB := n2_; have HI := n3_; have HB0 := n4_; have GEg := n5_; have NBg_3 := n6_; clear n1_ n2_ n3_ n4_ n5_ n6_; clear hb hbox hg) | ((with_reducible refine gate_callee (f := 52) rfl ?_); refine goesL_ (some 21) rfl rfl Tryd.func52 (by kernel_rfl) rfl #[.pointer (some ⟨g, 0, none⟩), .int .i64 0] rfl ga_ ?_; (with_reducible refine (parser_entries.calls k g t1 0 0 0 0 e1 e2 e3 e4 w58 _ HI.out HB0.out A3.out).mono ?_); rintro e w61 ⟨v2, rfl, ho0, hi, hb2, hk⟩; refine ⟨_, rfl, ?_⟩; have n0_ := Aside0.mk (Kd.R_lower ho0 (below_size HB.out)); have n1_ := Aside0.mk (KeepBut.blk hk (g' := gb3) (o := .cells #[.int .i64 0, .int .i64 0] 26 (0, 0)) BK3.out NBg_3.out.symm (by simp)); have n2_ := Aside0.mk (below_step HB58.out hb2); have n3_ := Aside0.mk hi; clear BK3 HB HI HB0; have HO2 := n0_; have BK3 := n1_; have HB := n2_; have HI := n3_; clear n0_ n1_ n2_ n3_; obtain ⟨Aq, cq, hgq, hleq, hCq⟩ := HI.out; have hcq_2 : w61.cell? ⟨g, 2, none⟩ = some (.int .i64 e3) := cellS69_2 hgq; have hcq_3 : w61.cell? ⟨g, 3, none⟩ = some (.int .i64 e4) := cellS69_3 hgq; have hcb_0 : w61.cell? ⟨gb3, 0, none⟩ = some (.int .i64 0) := (blk_cell BK3.out 0).trans rfl; have hcb_1 : w61.cell? ⟨gb3, 1, none⟩ = some (.int .i64 0) := (blk_cell BK3.out 1).trans rfl; have hfb_0 := blk_frozen BK3.out 0; have hfb_1 := blk_frozen BK3.out 1; clear hgq hleq hCq ho0 hi hb2 hk))
   refine bodyPost_ret (results_tc rfl _ _ gb3 26 #[.int .i64 0, .int .i64 0] (0, 0) _ rfl (by exact put2_ (bk_ BK3.out)) Tryd.underlying26 rfl (by kernel_rfl)) rfl ?_
   exact ⟨_, er_, by exact Kd.R_mono (Kd.R_far (p := ⟨gb3, 1, none⟩) (Kd.R_far (p := ⟨gb3, 0, none⟩) (Kd.R_types HO2.out BK3.out (by decide)) (fun _ hk => hk.2) (.int .i64 0)) (fun _ hk => hk.2) (.int .i64 0)) (fun _ hk => trivial), bl1_ HB.out GE3.out⟩
  ·
   rw [if_neg c4] at H
   have c4b0 := beq_eq_false_iff_ne.mpr c4
   have c4b1 := bne_iff_ne.mpr c4
   simp only [Option.some.injEq, Prod.mk.injEq] at H
   obtain ⟨rfl, rfl, rfl⟩ := H
   go_enter Tryd.func22, Tryd.ntmps22
   try go_wp2_with (first | ((with_reducible refine gate_dst (N := 3) rfl ?_); refine bx_ (N := 3) (cs := #[.int .i64 0, .int .i64 0]) (t := 26) ?_; intro gb3 hg w4 hbox hb; have n0_ := Aside0.mk (below_step (bl_ HB.out) hb); have n1_ := Aside0.mk (hbox); have n3_ := Aside0.mk (bz_ (w := w) hg (bl_ HB.out)); clear HB; have HB := n0_; have BK3 := n1_; have GE3 := n3_; clear n0_ n1_ n3_; clear hb hbox hg) | ((with_reducible refine gate_callee (f := 25) rfl ?_); refine goesL_ (some 10) rfl rfl Tryd.func25 (by kernel_rfl) rfl #[.string a0] rfl ga_ ?_; (with_reducible refine (lexer_Lex.calls k a0 t1 t2 t3 _ A2.out).mono ?_); rintro e w5 ⟨v1, rfl, ho0, hb⟩; refine ⟨_, rfl, ?_⟩; refine cut3_ (Kd.R_lower ho0 (below_size (bl1_ HB.out GE3.out))) (bb_ BK3.out hb) (below_step (bl1_ HB.out GE3.out) hb) ?_; clear BK3 HB; intro HO1 BK3 HB; (try clear hb); (try clear ho0)) | ((with_reducible refine gate_dst (N := 5) rfl ?_); refine bx_ (N := 5) (cs := #[.int .i64 0, .int .i64 0]) (t := 26) ?_; intro gb5 hg w55 hbox hb; have n0_ := Aside0.mk (Kd.R_below (rR_ HO1.out) hb); have n1_ := Aside0.mk (bb_ BK3.out hb); have n2_ := Aside0.mk (below_step (bl1_ HB.out GE3.out) hb); have n3_ := Aside0.mk (hbox); have n5_ := Aside0.mk (bz_ (w := w) hg (bl1_ HB.out GE3.out)); have n6_ := Aside0.mk (nl_ hg BK3.out); have n7_ := Aside0.mk (ng_ hg BK3.out); clear HO1; clear BK3; clear HB; have HO1 := n0_; have BK3 := n1_; have HB := n2_; have BK5 := n3_; have GE5 := n5_; have NB3_5 := n6_; have NB5_3 := n7_; clear n0_ n1_ n2_ n3_ n5_ n6_ n7_; clear hb hbox hg; have hnb56 := NB5_3.out; have hnc56 := NB3_5.out; obtain ⟨hcz57_0, hcz57_1, hfz57_0, hfz57_1⟩ := cq2_ BK5.out) | ((with_reducible refine gate_store (t := 26) (p := 5) rfl ?_); refine store_event (t := 26) (p := 5) (v := ?vo_w58) (w1 := ((w55.setCell ⟨gb5, 0, none⟩ (.int .i64 t2)).setCell ⟨gb5, 1, none⟩ (.int .i64 t3))) ?hg ?ho ?hn ?hr ?_; (case ho => rfl); (case hg => rfl); (case hn => rfl); (case hr => first | (go_simp; done) | (go_simp; rfl)); intro w58 hw; have n0_ : Aside0 (Kd.R k46 46 w58 w.heap.size (fun _ => True) v1 t1) := ⟨by rw [hw]; exact Kd.R_mono (Kd.R_far (p := ⟨gb5, 1, none⟩) (Kd.R_far (p := ⟨gb5, 0, none⟩) (Kd.R_types HO1.out BK5.out (by decide)) (fun _ hk => hk.2) (.int .i64 t2)) (fun _ hk => hk.2) (.int .i64 t3)) (fun _ hk => trivial)⟩; have n1_ : Aside0 (w58.heap[gb3]? = some (.cells #[.int .i64 0, .int .i64 0] 26 (0, 0))) := ⟨by rw [hw]; refine far2_ ?_ NB3_5.out; exact BK3.out⟩; have n2_ : Aside0 (w58.heap[gb5]? = some (.cells #[.int .i64 t2, .int .i64 t3] 26 (0, 0))) := ⟨by rw [hw]; refine blk_put (cs := #[.int .i64 t2, .int .i64 0]) ?_ 1 _ rfl; refine blk_put (cs := #[.int .i64 0, .int .i64 0]) ?_ 0 _ rfl; exact BK5.out⟩; have n3_ : Aside0 (Below w.heap.size w w58) := ⟨by rw [hw]; repeat (first | (with_reducible first | exact HB.out | refine below_set ?_ GE3.out | refine below_set ?_ GE5.out) | exact HB.out)⟩; clear hw; clear HO1 BK3 BK5 HB; (try clear hcz57_0 hcz57_1 hfz57_0 hfz57_1); have HO1 := n0_; have BK3 := n1_; have BK5 := n2_; have HB := n3_; clear n0_ n1_ n2_ n3_; have hl5_0 : w58.cell? ⟨gb5, 0, none⟩ = some (.int .i64 t2) := (blk_cell BK5.out 0).trans rfl; have hl5_1 : w58.cell? ⟨gb5, 1, none⟩ = some (.int .i64 t3) := (blk_cell BK5.out 1).trans rfl; obtain ⟨Ao, co, eo⟩ := Kd.R_slice HO1.out; subst eo; have HC := Aside0.mk (Kd.R_reads' HO1.out).2.2; have HB58 := HB) | ((with_reducible refine gate_dst (N := 19) rfl ?_); refine bx_ (N := 19) (cs := #[.slice Ao t1.length co, .int .i64 0, .int .i64 0, .int .i64 0]) (t := 69) ?_; intro g hg w60 hbox hb; have n1_ := Aside0.mk (blk_below (g := gb3) (o := .cells #[.int .i64 0, .int .i64 0] 26 (0, 0)) BK3.out hb); have n2_ := Aside0.mk (below_step HB.out hb); have n3_ : Aside0 (IsS69 w58 w60 g t1 0 0 0) := ⟨⟨Ao, co, hbox, Nat.le_of_eq hg.symm, HC.out⟩⟩; have n4_ : Aside0 (Below w58.heap.size w58 w60) := ⟨hb⟩; have n5_ : Aside0 (w.heap.size ≤ g) := ⟨by rw [hg]; exact below_size HB.out⟩; have n6_ : Aside0 (g ≠ gb3) := ⟨by rw [hg]; exact Nat.ne_of_gt (blk_lt BK3.out)⟩; clear BK3 HB; have BK3 := n1_; have HB := n2_; have HI := n3_; have HB0 := n4_; have GEg := n5_; have NBg_3 := n6_; clear n1_ n2_ n3_ n4_ n5_ n6_; clear hb hbox hg) | ((with_reducible refine gate_callee (f := 52) rfl ?_); refine goesL_ (some 21) rfl rfl Tryd.func52 (by kernel_rfl) rfl #[.pointer (some ⟨g, 0, none⟩), .int .i64 0] rfl ga_ ?_; (with_reducible refine (parser_entries.calls k g t1 0 0 0 0 e1 e2 e3 e4 w58 _ HI.out HB0.out A3.out).mono ?_); rintro e w61 ⟨v2, rfl, ho0, hi, hb2, hk⟩; refine ⟨_, rfl, ?_⟩; have n0_ := Aside0.mk (Kd.R_lower ho0 (below_size HB.out)); have n1_ := Aside0.mk (KeepBut.blk hk (g' := gb3) (o := .cells #[.int .i64 0, .int .i64 0] 26 (0, 0)) BK3.out NBg_3.out.symm (by simp)); have n2_ := Aside0.mk (below_step HB58.out hb2); have n3_ := Aside0.mk hi; clear BK3 HB HI HB0; have HO2 := n0_; have BK3 := n1_; have HB := n2_; have HI := n3_; clear n0_ n1_ n2_ n3_; obtain ⟨Aq, cq, hgq, hleq, hCq⟩ := HI.out; have hcq_2 : w61.cell? ⟨g, 2, none⟩ = some (.int .i64 e3) := cellS69_2 hgq; have hcq_3 : w61.cell? ⟨g, 3, none⟩ = some (.int .i64 e4) := cellS69_3 hgq; have hcb_0 : w61.cell? ⟨gb3, 0, none⟩ = some (.int .i64 0) := (blk_cell BK3.out 0).trans rfl; have hcb_1 : w61.cell? ⟨gb3, 1, none⟩ = some (.int .i64 0) := (blk_cell BK3.out 1).trans rfl; have hfb_0 := blk_frozen BK3.out 0; have hfb_1 := blk_frozen BK3.out 1; clear hgq hleq hCq ho0 hi hb2 hk))
   refine cut3_ (blk_drew BK3.out) (IsS69.drew HI.out) (below_drew1 HB.out) ?_
   clear BK3 HI HB hcq_2 hcq_3 hcb_0 hcb_1 hfb_0 hfb_1
   intro BK3 HI HB
   obtain ⟨Aq, cq, hgq, hleq, hCq⟩ := HI.out
   refine start_ (n := 6) (S := fun w' => w'.cell? ⟨g, 2, none⟩ = some (.int .i64 e3) ∧ w'.cell? ⟨g, 3, none⟩ = some (.int .i64 e4)) (ds := []) #[false, false, false, false, false, false] (by kernel_rfl) rfl rfl ⟨cellS69_2 hgq, cellS69_3 hgq⟩ (fun hHeld => ?_)
   clear hgq hleq hCq
   generalize w61.drew = w62 at BK3 HI HB hHeld ⊢
   refine pr_ (i := 4) (N := some 2) #[false, false, false, false, true, false] (by kernel_rfl) ?_
   refine pr_ (i := 0) (N := some 28) #[true, false, false, false, true, false] (by kernel_rfl) ?_
   refine pr_ (i := 1) (N := some 29) #[true, true, false, false, true, false] (by kernel_rfl) ?_
   refine pr_ (i := 2) (N := some 30) #[true, true, true, false, true, false] (by kernel_rfl) ?_
   refine take_ (i := 3) (N := some 31) (v := ?_) (a' := ?_) #[true, true, true, true, true, false] rfl rfl (by kernel_rfl) (fun _ _ _ h => h) (Or.inl ⟨by rfl, ?_⟩) hHeld ?_ ?_
   rotate_left
   ·
    rintro w' ⟨s0, s1⟩
    go_simp
    with_reducible rfl
   rotate_left
   ·
    simp only [Act.put, List.setIfInBounds_toArray, List.set_cons_zero, List.set_cons_succ, i64_w, i32_w]
    rfl
   refine one_ (i := 5) (N := none) #[true, true, true, true, true, true] rfl rfl (by kernel_rfl) (by decide) (fun K hK => ?_)
   have hs60 : w62.cell? ⟨gb3, 0, none⟩ = some (.int .i64 0) := (blk_cell BK3.out 0).trans rfl
   have hfs60 := blk_frozen BK3.out 0
   have hs61 : w62.cell? ⟨gb3, 1, none⟩ = some (.int .i64 0) := (blk_cell BK3.out 1).trans rfl
   have hfs61 := blk_frozen BK3.out 1
   refine skip_ (w1 := ?_) (by rfl) rfl ?_ ?_
   rotate_left
   ·
    go_simp
    rfl
   refine hK.out _ _ ⟨(cf2_ gb3 NBg_3.out hHeld.1), (cf2_ gb3 NBg_3.out hHeld.2)⟩ (fun hHeld => ?_)
   clear hK K
   refine done_ (by kernel_rfl) ?_
   try go_wp2
   refine bodyPost_ret (results_tc rfl _ _ gb3 26 #[.int .i64 e3, .int .i64 e4] (0, 0) _ rfl (by exact put2_ (bk_ BK3.out)) Tryd.underlying26 rfl (by kernel_rfl)) rfl ?_
   exact ⟨_, er_, by exact Kd.R_nil _ _ _ _ _, bl1_ HB.out GE3.out⟩
 ·
  rw [if_neg c3] at H
  have c3b0 := beq_eq_false_iff_ne.mpr c3
  have c3b1 := bne_iff_ne.mpr c3
  simp only [Option.some.injEq, Prod.mk.injEq] at H
  obtain ⟨rfl, rfl, rfl⟩ := H
  go_enter Tryd.func22, Tryd.ntmps22
  try go_wp2_with (first | ((with_reducible refine gate_dst (N := 3) rfl ?_); refine bx_ (N := 3) (cs := #[.int .i64 0, .int .i64 0]) (t := 26) ?_; intro gb3 hg w4 hbox hb; have n0_ := Aside0.mk (below_step (bl_ HB.out) hb); have n1_ := Aside0.mk (hbox); have n3_ := Aside0.mk (bz_ (w := w) hg (bl_ HB.out)); clear HB; have HB := n0_; have BK3 := n1_; have GE3 := n3_; clear n0_ n1_ n3_; clear hb hbox hg) | ((with_reducible refine gate_callee (f := 25) rfl ?_); refine goesL_ (some 10) rfl rfl Tryd.func25 (by kernel_rfl) rfl #[.string a0] rfl ga_ ?_; (with_reducible refine (lexer_Lex.calls k a0 t1 t2 t3 _ A2.out).mono ?_); rintro e w5 ⟨v1, rfl, ho0, hb⟩; refine ⟨_, rfl, ?_⟩; refine cut3_ (Kd.R_lower ho0 (below_size (bl1_ HB.out GE3.out))) (bb_ BK3.out hb) (below_step (bl1_ HB.out GE3.out) hb) ?_; clear BK3 HB; intro HO1 BK3 HB; (try clear hb); (try clear ho0)) | ((with_reducible refine gate_dst (N := 5) rfl ?_); refine bx_ (N := 5) (cs := #[.int .i64 0, .int .i64 0]) (t := 26) ?_; intro gb5 hg w55 hbox hb; have n0_ := Aside0.mk (Kd.R_below (rR_ HO1.out) hb); have n1_ := Aside0.mk (bb_ BK3.out hb); have n2_ := Aside0.mk (below_step (bl1_ HB.out GE3.out) hb); have n3_ := Aside0.mk (hbox); have n5_ := Aside0.mk (bz_ (w := w) hg (bl1_ HB.out GE3.out)); have n6_ := Aside0.mk (nl_ hg BK3.out); have n7_ := Aside0.mk (ng_ hg BK3.out); clear HO1; clear BK3; clear HB; have HO1 := n0_; have BK3 := n1_; have HB := n2_; have BK5 := n3_; have GE5 := n5_; have NB3_5 := n6_; have NB5_3 := n7_; clear n0_ n1_ n2_ n3_ n5_ n6_ n7_; clear hb hbox hg; have hnb56 := NB5_3.out; have hnc56 := NB3_5.out; obtain ⟨hcz57_0, hcz57_1, hfz57_0, hfz57_1⟩ := cq2_ BK5.out))
  have n0_ : Aside0 (Kd.R k46 46 ((w55.setCell ⟨gb5, 0, none⟩ (.int .i64 t2)).setCell ⟨gb5, 1, none⟩ (.int .i64 t3)) w.heap.size (fun _ => True) v1 t1) := ⟨by (with_reducible repeat (first | apply Kd.R_alloc | apply Kd.R_drewN | apply Kd.R_drew)); exact Kd.R_mono (Kd.R_far (p := ⟨gb5, 1, none⟩) (Kd.R_far (p := ⟨gb5, 0, none⟩) (Kd.R_types HO1.out BK5.out (by decide)) (fun _ hk => hk.2) (.int .i64 t2)) (fun _ hk => hk.2) (.int .i64 t3)) (fun _ hk => trivial)⟩
  have n1_ : Aside0 (((w55.setCell ⟨gb5, 0, none⟩ (.int .i64 t2)).setCell ⟨gb5, 1, none⟩ (.int .i64 t3)).heap[gb3]? = some (.cells #[.int .i64 0, .int .i64 0] 26 (0, 0))) := ⟨by refine far2_ ?_ NB3_5.out; exact BK3.out⟩
  have n2_ : Aside0 (((w55.setCell ⟨gb5, 0, none⟩ (.int .i64 t2)).setCell ⟨gb5, 1, none⟩ (.int .i64 t3)).heap[gb5]? = some (.cells #[.int .i64 t2, .int .i64 t3] 26 (0, 0))) := ⟨by refine blk_put (cs := #[.int .i64 t2, .int .i64 0]) ?_ 1 _ rfl; refine blk_put (cs := #[.int .i64 0, .int .i64 0]) ?_ 0 _ rfl; exact BK5.out⟩
  have n3_ : Aside0 (Below w.heap.size w ((w55.setCell ⟨gb5, 0, none⟩ (.int .i64 t2)).setCell ⟨gb5, 1, none⟩ (.int .i64 t3))) := ⟨by repeat (first | (with_reducible first | exact HB.out | refine below_set ?_ GE3.out | refine below_set ?_ GE5.out) | exact HB.out)⟩
  clear HO1 BK3 BK5 HB
  (try clear hcz57_0 hcz57_1 hfz57_0 hfz57_1)
  generalize ((w55.setCell ⟨gb5, 0, none⟩ (.int .i64 t2)).setCell ⟨gb5, 1, none⟩ (.int .i64 t3)) = w58 at n0_ n1_ n2_ n3_ ⊢
  have HO1 := n0_
  have BK3 := n1_
  have BK5 := n2_
  have HB := n3_
  clear n0_ n1_ n2_ n3_
  refine cut4_ (Kd.R_drew HO1.out) (blk_drew BK3.out) (blk_drew BK5.out) (below_drew1 HB.out) ?_
  clear HO1 BK3 BK5 HB
  intro HO1 BK3 BK5 HB
  refine start_ (n := 3) (S := fun w' => w'.cell? ⟨gb5, 0, none⟩ = some (.int .i64 t2) ∧ w'.cell? ⟨gb5, 1, none⟩ = some (.int .i64 t3)) (ds := []) #[false, false, false] (by kernel_rfl) rfl rfl ⟨(blk_cell BK5.out 0).trans rfl, (blk_cell BK5.out 1).trans rfl⟩ (fun hHeld => ?_)
  generalize w58.drew = w59 at HO1 BK3 BK5 HB hHeld ⊢
  refine pr_ (i := 1) (N := some 2) #[false, true, false] (by kernel_rfl) ?_
  refine take_ (i := 0) (N := some 16) (v := ?_) (a' := ?_) #[true, true, false] rfl rfl (by kernel_rfl) (fun _ _ _ h => h) (Or.inl ⟨by rfl, ?_⟩) hHeld ?_ ?_
  rotate_left
  ·
   rintro w' ⟨s0, s1⟩
   go_simp
   with_reducible rfl
  rotate_left
  ·
   simp only [Act.put, List.setIfInBounds_toArray, List.set_cons_zero, List.set_cons_succ, i64_w, i32_w]
   rfl
  refine one_ (i := 2) (N := none) #[true, true, true] rfl rfl (by kernel_rfl) (by decide) (fun K hK => ?_)
  have hs60 : w59.cell? ⟨gb3, 0, none⟩ = some (.int .i64 0) := (blk_cell BK3.out 0).trans rfl
  have hfs60 := blk_frozen BK3.out 0
  have hns60_1 := NB5_3.out
  have hms60_1 := NB3_5.out
  have hs61 : w59.cell? ⟨gb3, 1, none⟩ = some (.int .i64 0) := (blk_cell BK3.out 1).trans rfl
  have hfs61 := blk_frozen BK3.out 1
  refine skip_ (w1 := ?_) (by rfl) rfl ?_ ?_
  rotate_left
  ·
   go_simp
   rfl
  refine hK.out _ _ ⟨(cf2_ gb3 NB5_3.out hHeld.1), (cf2_ gb3 NB5_3.out hHeld.2)⟩ (fun hHeld => ?_)
  clear hK K
  refine done_ (by kernel_rfl) ?_
  try go_wp2
  refine bodyPost_ret (results_tc rfl _ _ gb3 26 #[.int .i64 t2, .int .i64 t3] (0, 0) _ rfl (by exact put2_ (bk_ BK3.out)) Tryd.underlying26 rfl (by kernel_rfl)) rfl ?_
  exact ⟨_, er_, by exact Kd.R_nil _ _ _ _ _, bl2_ HB.out GE3.out GE5.out⟩
end Go.Proofs.YtkifdadhojbohaaDoor.Pr
namespace Go.Proofs.YtkifdadhojbohaaDoor.Pr
open Go.Proofs.YtkifdadhojbohaaDoor
open Go.RowKit Go.Proofs.YtkifdadhojbohaaDoorW.PrintWords Go.Proofs.YtkifdadhojbohaaDoorW.PrintLast Go.Proofs.YtkifdadhojbohaaDoorW.PrintMore
attribute [local go_sem] max2_int min2_int max_two min_two max_three min_three max_four min_four   -- for this text's walks alone
set_option linter.unusedVariables false
set_option linter.unusedSimpArgs false
attribute [local go_sem high] eqA26
/-! ### salchowlaw10_awake: function 21 -/
def salchowlaw10_awake.f (k : Nat)  : Option (Bool) := (parser_Parse.f k (⟨#[103, 114, 111, 117, 112, 32, 106, 117, 109, 112, 32, 108, 105, 109, 105, 116, 32, 51, 59, 32, 115, 101, 103, 109, 101, 110, 116, 32, 102, 114, 101, 101, 32, 123, 32, 99, 111, 117, 110, 116, 32, 55, 59, 32, 125]⟩ : ByteArray)).bind fun bt137 => ((parser_Parse.f k (⟨#[97, 32, 98, 32, 125]⟩ : ByteArray)).bind fun bt143 => (if bt137.2.1 = 0 then (if (bt137.1.length : Int) = 2 then (if 0 < (bt137.1.length : Int) then (if (((rd_T41 bt137.1 0).f1).length : Int) = 3 then (if 1 < (bt137.1.length : Int) then (if (rd_T41 bt137.1 1).f2 = true then (if (((rd_T41 bt137.1 1).f3).length : Int) = 1 then ((parser_Count.f k bt137.1).bind fun t152 => (if t152 = 3 then ((parser_Depth.f k bt137.1).bind fun t153 => (if t153 = 1 then (if (bt143.2.1 == 2 && (bt143.2.2 == 4)) = true then ((pSame.f k bt137.1 bt137.1).bind fun t154 => (if t154 = true then (if 1 ≤ (bt137.1.length : Int) then ((pSame.f k bt137.1 (bt137.1.take 1)).bind fun t160 => (if t160 = true then (none) else ((parser_Check.f k bt137.1).bind fun t161 => (if t161 = 0 then ((parser_Check.f k (([(⟨(⟨#[59]⟩ : ByteArray), ([] : List (S46)), false, ([] : List (S41)), 0⟩ : S41)] : List (S41)))).bind fun t165 => (if t165 = 2 then ((parser_Find.f k bt137.1 (⟨#[103, 114, 111, 117, 112]⟩ : ByteArray)).bind fun t166 => (some ((t166.length : Int) == 1))) else (none))) else (none))))) else (none)) else (none))) else (none)) else (none))) else (none))) else (none)) else (none)) else (none)) else (none)) else (none)) else (none)) else (none)))
theorem salchowlaw10_awake.mono : ∀ k, LeO (salchowlaw10_awake.f k ) (salchowlaw10_awake.f (k + 1) ) := by
 intro  k
 unfold salchowlaw10_awake.f
 repeat' first
   | (with_reducible exact LeO.refl _)
   | exact pSame.mono _ _ _
   | exact parser_Check.mono _ _
   | exact parser_Count.mono _ _
   | exact parser_Depth.mono _ _
   | exact parser_Find.mono _ _ _
   | exact parser_Parse.mono _ _
   | exact LeO.none _
   | refine LeO.ite ?_ ?_
   | refine LeO.bind ?_ (fun _ => ?_)
set_option maxHeartbeats 8000000 in
set_option maxRecDepth 100000 in
theorem salchowlaw10_awake.calls (k : Nat)  (r : Bool) (w : World) (h : salchowlaw10_awake.f k  = some r) :
  Calls Tryd.prog 21 #[] w fun e w' => e = .returned (.bool r) ∧ Below w.heap.size w w' := by
 have hu26 := Tryd.underlying26
 have hu41 := Tryd.underlying41
 have HB := Aside0.mk (Below.refl w.heap.size w)
 have H : ((parser_Parse.f k (⟨#[103, 114, 111, 117, 112, 32, 106, 117, 109, 112, 32, 108, 105, 109, 105, 116, 32, 51, 59, 32, 115, 101, 103, 109, 101, 110, 116, 32, 102, 114, 101, 101, 32, 123, 32, 99, 111, 117, 110, 116, 32, 55, 59, 32, 125]⟩ : ByteArray)).bind fun bt137 => ((parser_Parse.f k (⟨#[97, 32, 98, 32, 125]⟩ : ByteArray)).bind fun bt143 => (if bt137.2.1 = 0 then (if (bt137.1.length : Int) = 2 then (if 0 < (bt137.1.length : Int) then (if (((rd_T41 bt137.1 0).f1).length : Int) = 3 then (if 1 < (bt137.1.length : Int) then (if (rd_T41 bt137.1 1).f2 = true then (if (((rd_T41 bt137.1 1).f3).length : Int) = 1 then ((parser_Count.f k bt137.1).bind fun t152 => (if t152 = 3 then ((parser_Depth.f k bt137.1).bind fun t153 => (if t153 = 1 then (if (bt143.2.1 == 2 && (bt143.2.2 == 4)) = true then ((pSame.f k bt137.1 bt137.1).bind fun t154 => (if t154 = true then (if 1 ≤ (bt137.1.length : Int) then ((pSame.f k bt137.1 (bt137.1.take 1)).bind fun t160 => (if t160 = true then (none) else ((parser_Check.f k bt137.1).bind fun t161 => (if t161 = 0 then ((parser_Check.f k (([(⟨(⟨#[59]⟩ : ByteArray), ([] : List (S46)), false, ([] : List (S41)), 0⟩ : S41)] : List (S41)))).bind fun t165 => (if t165 = 2 then ((parser_Find.f k bt137.1 (⟨#[103, 114, 111, 117, 112]⟩ : ByteArray)).bind fun t166 => (some ((t166.length : Int) == 1))) else (none))) else (none))))) else (none)) else (none))) else (none)) else (none))) else (none))) else (none)) else (none)) else (none)) else (none)) else (none)) else (none)) else (none)))) = some r := h
 clear h
 replace H := Option.bind_eq_some_iff.mp H
 obtain ⟨⟨t137, t140, t141⟩, A10, H⟩ := H
 (try dsimp only at H)
 have A1 := Aside0.mk A10
 clear A10
 replace H := Option.bind_eq_some_iff.mp H
 obtain ⟨⟨t143, t146, t147⟩, A20, H⟩ := H
 (try dsimp only at H)
 have A2 := Aside0.mk A20
 clear A20
 by_cases c3 : t140 = 0
 ·
  rw [if_pos c3] at H
  have c3b0 := beq_iff_eq.mpr c3
  have c3b1 := bne_eq_false_iff_eq.mpr c3
  clear c3
  by_cases c4 : (t137.length : Int) = 2
  ·
   rw [if_pos c4] at H
   have c4b0 := beq_iff_eq.mpr c4
   have c4b1 := bne_eq_false_iff_eq.mpr c4
   clear c4
   by_cases c5 : 0 < (t137.length : Int)
   ·
    rw [if_pos c5] at H
    have c5b0 := decide_eq_true c5
    have c5b1 : decide (0 < t137.length) = true := decide_eq_true (by omega)
    clear c5
    by_cases c6 : (((rd_T41 t137 0).f1).length : Int) = 3
    ·
     rw [if_pos c6] at H
     have c6b0 := beq_iff_eq.mpr c6
     have c6b1 := bne_eq_false_iff_eq.mpr c6
     clear c6
     by_cases c7 : 1 < (t137.length : Int)
     ·
      rw [if_pos c7] at H
      have c7b0 := decide_eq_true c7
      have c7b1 : decide (1 < t137.length) = true := decide_eq_true (by omega)
      clear c7
      obtain ⟨bq8, hbq8⟩ : ∃ b_ : Bool, b_ = ((rd_T41 t137 1).f2) := ⟨_, rfl⟩
      replace H : (if bq8 = true then (if (((rd_T41 t137 1).f3).length : Int) = 1 then ((parser_Count.f k t137).bind fun t152 => (if t152 = 3 then ((parser_Depth.f k t137).bind fun t153 => (if t153 = 1 then (if (t146 == 2 && (t147 == 4)) = true then ((pSame.f k t137 t137).bind fun t154 => (if t154 = true then (if 1 ≤ (t137.length : Int) then ((pSame.f k t137 (t137.take 1)).bind fun t160 => (if t160 = true then (none) else ((parser_Check.f k t137).bind fun t161 => (if t161 = 0 then ((parser_Check.f k (([(⟨(⟨#[59]⟩ : ByteArray), ([] : List (S46)), false, ([] : List (S41)), 0⟩ : S41)] : List (S41)))).bind fun t165 => (if t165 = 2 then ((parser_Find.f k t137 (⟨#[103, 114, 111, 117, 112]⟩ : ByteArray)).bind fun t166 => (some ((t166.length : Int) == 1))) else (none))) else (none))))) else (none)) else (none))) else (none)) else (none))) else (none))) else (none)) else (none)) = some r := by rw [← hbq8] at H; exact H
      have Nbq8 := Aside0.mk hbq8
      clear hbq8
      by_cases c9 : bq8 = true
      ·
       subst c9
       have H1 : (if (((rd_T41 t137 1).f3).length : Int) = 1 then ((parser_Count.f k t137).bind fun t152 => (if t152 = 3 then ((parser_Depth.f k t137).bind fun t153 => (if t153 = 1 then (if (t146 == 2 && (t147 == 4)) = true then ((pSame.f k t137 t137).bind fun t154 => (if t154 = true then (if 1 ≤ (t137.length : Int) then ((pSame.f k t137 (t137.take 1)).bind fun t160 => (if t160 = true then (none) else ((parser_Check.f k t137).bind fun t161 => (if t161 = 0 then ((parser_Check.f k (([(⟨(⟨#[59]⟩ : ByteArray), ([] : List (S46)), false, ([] : List (S41)), 0⟩ : S41)] : List (S41)))).bind fun t165 => (if t165 = 2 then ((parser_Find.f k t137 (⟨#[103, 114, 111, 117, 112]⟩ : ByteArray)).bind fun t166 => (some ((t166.length : Int) == 1))) else (none))) else (none))))) else (none)) else (none))) else (none)) else (none))) else (none))) else (none)) = some r := by rw [if_pos rfl] at H; exact H
       clear H
       have H := H1
       clear H1
       by_cases c10 : (((rd_T41 t137 1).f3).length : Int) = 1
       ·
        rw [if_pos c10] at H
        have c10b0 := beq_iff_eq.mpr c10
        have c10b1 := bne_eq_false_iff_eq.mpr c10
        clear c10
        replace H := Option.bind_eq_some_iff.mp H
        obtain ⟨t152, A110, H⟩ := H
        (try dsimp only at H)
        have A11 := Aside0.mk A110
        clear A110
        by_cases c12 : t152 = 3
        ·
         rw [if_pos c12] at H
         have c12b0 := beq_iff_eq.mpr c12
         have c12b1 := bne_eq_false_iff_eq.mpr c12
         clear c12
         replace H := Option.bind_eq_some_iff.mp H
         obtain ⟨t153, A130, H⟩ := H
         (try dsimp only at H)
         have A13 := Aside0.mk A130
         clear A130
         by_cases c14 : t153 = 1
         ·
          rw [if_pos c14] at H
          have c14b0 := beq_iff_eq.mpr c14
          have c14b1 := bne_eq_false_iff_eq.mpr c14
          clear c14
          by_cases c15 : (t146 == 2 && (t147 == 4)) = true
          ·
           rw [if_pos c15] at H
           have c15b0 : (t146 == 2 && (t147 == 4)) = true := c15
           (try (have c15b1 : decide (t146 = 2 && (t147 == 4)) = true := by simpa using c15))
           (try (have c15b2 : (t146 == 2 && (t147 == 4)) = true := by simpa using c15))
           clear c15
           replace H := Option.bind_eq_some_iff.mp H
           obtain ⟨t154, A160, H⟩ := H
           (try dsimp only at H)
           have A16 := Aside0.mk A160
           clear A160
           by_cases c17 : t154 = true
           ·
            subst c17
            have H1 : (if 1 ≤ (t137.length : Int) then ((pSame.f k t137 (t137.take 1)).bind fun t160 => (if t160 = true then (none) else ((parser_Check.f k t137).bind fun t161 => (if t161 = 0 then ((parser_Check.f k (([(⟨(⟨#[59]⟩ : ByteArray), ([] : List (S46)), false, ([] : List (S41)), 0⟩ : S41)] : List (S41)))).bind fun t165 => (if t165 = 2 then ((parser_Find.f k t137 (⟨#[103, 114, 111, 117, 112]⟩ : ByteArray)).bind fun t166 => (some ((t166.length : Int) == 1))) else (none))) else (none))))) else (none)) = some r := by rw [if_pos rfl] at H; exact H
            clear H
            have H := H1
            clear H1
            by_cases c18 : 1 ≤ (t137.length : Int)
            ·
             rw [if_pos c18] at H
             have c18b0 := eq_true c18
             have c18b1 := decide_eq_true c18
             clear c18
             obtain ⟨y155, hy155⟩ : ∃ y_ : List (S41), y_ = (t137.take 1) := ⟨_, rfl⟩
             replace H : ((pSame.f k t137 y155).bind fun t160 => (if t160 = true then (none) else ((parser_Check.f k t137).bind fun t161 => (if t161 = 0 then ((parser_Check.f k (([(⟨(⟨#[59]⟩ : ByteArray), ([] : List (S46)), false, ([] : List (S41)), 0⟩ : S41)] : List (S41)))).bind fun t165 => (if t165 = 2 then ((parser_Find.f k t137 (⟨#[103, 114, 111, 117, 112]⟩ : ByteArray)).bind fun t166 => (some ((t166.length : Int) == 1))) else (none))) else (none))))) = some r := by first | (rw [hy155]; with_reducible exact H) | (have H2_ := (Option.bind_some _ _).symm.trans H; rw [hy155]; with_reducible exact H2_) | (have H2_ := (Option.bind_some _ _).symm.trans H; with_reducible exact H2_) | with_reducible exact H | (rw [hy155]; exact H) | exact H
             have Ny155 := Aside0.mk hy155
             clear hy155
             replace H := Option.bind_eq_some_iff.mp H
             obtain ⟨t160, A190, H⟩ := H
             (try dsimp only at H)
             have A19 := Aside0.mk A190
             clear A190
             by_cases c20 : t160 = true
             ·
              subst c20
              have H1 : (none) = some r := by rw [if_pos rfl] at H; exact H
              clear H
              have H := H1
              clear H1
              exact absurd H (by simp)
             ·
              replace c20 := Bool.eq_false_iff.mpr c20
              subst c20
              have H1 : ((parser_Check.f k t137).bind fun t161 => (if t161 = 0 then ((parser_Check.f k (([(⟨(⟨#[59]⟩ : ByteArray), ([] : List (S46)), false, ([] : List (S41)), 0⟩ : S41)] : List (S41)))).bind fun t165 => (if t165 = 2 then ((parser_Find.f k t137 (⟨#[103, 114, 111, 117, 112]⟩ : ByteArray)).bind fun t166 => (some ((t166.length : Int) == 1))) else (none))) else (none))) = some r := by rw [if_neg (show ¬ (false = true) by decide)] at H; exact H
              clear H
              have H := H1
              clear H1
              replace H := Option.bind_eq_some_iff.mp H
              obtain ⟨t161, A210, H⟩ := H
              (try dsimp only at H)
              have A21 := Aside0.mk A210
              clear A210
              by_cases c22 : t161 = 0
              ·
               rw [if_pos c22] at H
               have c22b0 := beq_iff_eq.mpr c22
               have c22b1 := bne_eq_false_iff_eq.mpr c22
               clear c22
               obtain ⟨y162, hy162⟩ : ∃ y_ : List (S41), y_ = (([(⟨(⟨#[59]⟩ : ByteArray), ([] : List (S46)), false, ([] : List (S41)), 0⟩ : S41)] : List (S41))) := ⟨_, rfl⟩
               replace H : ((parser_Check.f k y162).bind fun t165 => (if t165 = 2 then ((parser_Find.f k t137 (⟨#[103, 114, 111, 117, 112]⟩ : ByteArray)).bind fun t166 => (some ((t166.length : Int) == 1))) else (none))) = some r := by first | (rw [hy162]; with_reducible exact H) | (have H2_ := (Option.bind_some _ _).symm.trans H; rw [hy162]; with_reducible exact H2_) | (have H2_ := (Option.bind_some _ _).symm.trans H; with_reducible exact H2_) | with_reducible exact H | (rw [hy162]; exact H) | exact H
               have Ny162 := Aside0.mk hy162
               clear hy162
               replace H := Option.bind_eq_some_iff.mp H
               obtain ⟨t165, A230, H⟩ := H
               (try dsimp only at H)
               have A23 := Aside0.mk A230
               clear A230
               by_cases c24 : t165 = 2
               ·
                rw [if_pos c24] at H
                have c24b0 := beq_iff_eq.mpr c24
                have c24b1 := bne_eq_false_iff_eq.mpr c24
                clear c24
                replace H := Option.bind_eq_some_iff.mp H
                obtain ⟨t166, A250, H⟩ := H
                (try dsimp only at H)
                have A25 := Aside0.mk A250
                clear A250
                obtain rfl := Option.some.inj H
                go_enter Tryd.func21, Tryd.ntmps21
                go_wp2_with (first | ((with_reducible refine gate_callee (f := 22) rfl ?_); refine goesL_ (some 6) rfl rfl Tryd.func22 (by kernel_rfl) rfl #[.string (⟨#[103, 114, 111, 117, 112, 32, 106, 117, 109, 112, 32, 108, 105, 109, 105, 116, 32, 51, 59, 32, 115, 101, 103, 109, 101, 110, 116, 32, 102, 114, 101, 101, 32, 123, 32, 99, 111, 117, 110, 116, 32, 55, 59, 32, 125]⟩ : ByteArray)] rfl ga_ ?_; (with_reducible refine (parser_Parse.calls k (⟨#[103, 114, 111, 117, 112, 32, 106, 117, 109, 112, 32, 108, 105, 109, 105, 116, 32, 51, 59, 32, 115, 101, 103, 109, 101, 110, 116, 32, 102, 114, 101, 101, 32, 123, 32, 99, 111, 117, 110, 116, 32, 55, 59, 32, 125]⟩ : ByteArray) t137 t140 t141 _ A1.out).mono ?_); rintro e w26 ⟨v138, rfl, ho0, hb⟩; refine ⟨_, rfl, ?_⟩; refine cut2_ (Kd.N_lower (Kd.N_mono (ok' := fun k_ => True) (Kd.R_N (Kd.R_bound ho0)) (fun k_ hk_ => trivial)) (below_size (bl_ HB.out))) (below_step (bl_ HB.out) hb) ?_; clear HB; intro HO139 HB; (try clear hb); (try clear hb2); (try clear hk); (try clear hi); (try clear ho0)) | ((with_reducible refine gate_dst (N := 2) rfl ?_); (try (refine gate_guard (by rfl) ?_; dsimp only)); refine bx_ (N := 2) (cs := #[.int .i64 0, .int .i64 0]) (t := 26) ?_; intro gb142 hg w27 hbox hb; refine cut5_ (Kd.N_below (Kd.N_elderB (rN_ HO139.out) gb142 (Nat.le_of_eq hg.symm)) hb) (below_step (bl_ HB.out) hb) (hbox) (bz_ (w := w) hg (bl_ HB.out)) (bz_ (w := w) hg (bl_ HB.out)) ?_; clear HO139 HB; intro HO139 HB BK142 GW142 GE142; clear hb hbox hg; obtain ⟨hcz28_0, hcz28_1, hfz28_0, hfz28_1⟩ := cq2_ BK142.out) | ((with_reducible refine gate_callee (f := 22) rfl ?_); refine goesL_ (some 10) rfl rfl Tryd.func22 (by kernel_rfl) rfl #[.string (⟨#[97, 32, 98, 32, 125]⟩ : ByteArray)] rfl ga_ ?_; (with_reducible refine (parser_Parse.calls k (⟨#[97, 32, 98, 32, 125]⟩ : ByteArray) t143 t146 t147 _ A2.out).mono ?_); rintro e w29 ⟨v144, rfl, ho0, hb⟩; refine ⟨_, rfl, ?_⟩; refine cut4_ (Kd.N_elder' (by (with_reducible repeat (first | apply Kd.N_alloc | apply Kd.N_drewN | apply Kd.N_drew)); exact (Kd.N_mono (Kd.N_far (p := ⟨gb142, 1, none⟩) (Kd.N_far (p := ⟨gb142, 0, none⟩) (Kd.N_mono HO139.out (fun k_ hk => (⟨hk, hk.2⟩ : _ ∧ k_ ≠ gb142))) (fun _ hk => hk.2) (.int .i64 t140)) (fun _ hk => hk.2) (.int .i64 t141)) (fun _ h_ => h_.1))) (Kd.N_base (Kd.R_N (Kd.R_bound ho0))) hb) (Kd.N_lower (Kd.N_mono (ok' := fun k_ => some k_ ≠ (v138 : Value).ownBlock ∧ k_ ≠ gb142) (Kd.R_N (Kd.R_bound ho0)) (fun k_ hk_ => ⟨(Kd.fresh' (Kd.N_lt (by (with_reducible repeat (first | apply Kd.N_alloc | apply Kd.N_drewN | apply Kd.N_drew)); exact (Kd.N_mono (Kd.N_far (p := ⟨gb142, 1, none⟩) (Kd.N_far (p := ⟨gb142, 0, none⟩) (Kd.N_mono HO139.out (fun k_ hk => (⟨hk, hk.2⟩ : _ ∧ k_ ≠ gb142))) (fun _ hk => hk.2) (.int .i64 t140)) (fun _ hk => hk.2) (.int .i64 t141)) (fun _ h_ => h_.1)))) k_ hk_.2.1), (Kd.freshB (g := gb142) (o := .cells #[.int .i64 t140, .int .i64 t141] 26 (0, 0)) (by exact put2_ (bk_ BK142.out)) k_ hk_.2.1)⟩)) (below_size (bl1_ HB.out GE142.out))) (blk_below (g := gb142) (o := .cells #[.int .i64 t140, .int .i64 t141] 26 (0, 0)) (put2_ (bk_ BK142.out)) hb) (below_step (bl1_ HB.out GE142.out) hb) ?_; clear HO139 BK142 HB; intro HO139 HO145 BK142 HB; (try clear hb); (try clear hb2); (try clear hk); (try clear hi); (try clear ho0)) | ((with_reducible refine gate_dst (N := 4) rfl ?_); (try (refine gate_guard (by rfl) ?_; dsimp only)); refine bx_ (N := 4) (cs := #[.int .i64 0, .int .i64 0]) (t := 26) ?_; intro gb148 hg w30 hbox hb; refine cut9_ (Kd.N_below (Kd.N_elderB (rN_ HO139.out) gb148 (Nat.le_of_eq hg.symm)) hb) (Kd.N_below (Kd.N_elderB (rN_ HO145.out) gb148 (Nat.le_of_eq hg.symm)) hb) (bb_ BK142.out hb) (below_step (bl1_ HB.out GE142.out) hb) (hbox) (bz_ (w := w) hg (bl1_ HB.out GE142.out)) (bz_ (w := w) hg (bl1_ HB.out GE142.out)) (nl_ hg BK142.out) (ng_ hg BK142.out) ?_; clear HO139 HO145 BK142 HB; intro HO139 HO145 BK142 HB BK148 GW148 GE148 NB142_148 NB148_142; clear hb hbox hg; have hnb31 := NB148_142.out; have hnc31 := NB142_148.out; obtain ⟨hcz32_0, hcz32_1, hfz32_0, hfz32_1⟩ := cq2_ BK148.out) | ((with_reducible refine gate_store (t := 26) (p := 4) rfl ?_); refine store_event (t := 26) (p := 4) (v := ?vo_w33) (w1 := ((w30.setCell ⟨gb148, 0, none⟩ (.int .i64 t146)).setCell ⟨gb148, 1, none⟩ (.int .i64 t147))) ?hg ?ho ?hn ?hr ?_; (case ho => rfl); (case hg => rfl); (case hn => rfl); (case hr => first | (go_simp; done) | (go_simp; rfl)); intro w33 hw; have n0_ : Aside0 (Kd.N k41 41 w33 w.heap.size (fun k_ => some k_ ≠ (v144 : Value).ownBlock ∧ k_ ≠ gb142 ∧ k_ ≠ gb148) v138 t137) := ⟨(by rw [hw]; exact (by (with_reducible repeat (first | apply Kd.N_alloc | apply Kd.N_drewN | apply Kd.N_drew)); exact Kd.N_mono (Kd.N_far (p := ⟨gb148, 1, none⟩) (Kd.N_far (p := ⟨gb148, 0, none⟩) (Kd.N_mono HO139.out (fun k_ hk => (⟨hk, hk.2⟩ : _ ∧ k_ ≠ gb148))) (fun _ hk => hk.2) (.int .i64 t146)) (fun _ hk => hk.2) (.int .i64 t147)) (fun _ hk => ⟨hk.1.1.2, ⟨hk.1.1.1.2, hk.1.2⟩⟩)))⟩; have n1_ : Aside0 (Kd.N k41 41 w33 w.heap.size (fun k_ => some k_ ≠ (v138 : Value).ownBlock ∧ k_ ≠ gb142 ∧ k_ ≠ gb148) v144 t143) := ⟨(by rw [hw]; exact (by (with_reducible repeat (first | apply Kd.N_alloc | apply Kd.N_drewN | apply Kd.N_drew)); exact Kd.N_mono (Kd.N_far (p := ⟨gb148, 1, none⟩) (Kd.N_far (p := ⟨gb148, 0, none⟩) (Kd.N_mono HO145.out (fun k_ hk => (⟨hk, hk.2⟩ : _ ∧ k_ ≠ gb148))) (fun _ hk => hk.2) (.int .i64 t146)) (fun _ hk => hk.2) (.int .i64 t147)) (fun _ hk => ⟨hk.1.1.1, ⟨hk.1.1.2, hk.1.2⟩⟩)))⟩; have n2_ : Aside0 (w33.heap[gb142]? = some (.cells #[.int .i64 t140, .int .i64 t141] 26 (0, 0))) := ⟨(by rw [hw]; exact (by exact far2_ (bk_ BK142.out) NB142_148.out))⟩; have n3_ : Aside0 (w33.heap[gb148]? = some (.cells #[.int .i64 t146, .int .i64 t147] 26 (0, 0))) := ⟨(by rw [hw]; exact (by exact put2_ (bk_ BK148.out)))⟩; have n4_ : Aside0 (Below w.heap.size w w33) := ⟨(by rw [hw]; exact (bl2_ HB.out GE142.out GE148.out))⟩; clear hw; clear HO139; clear HO145; clear BK142; clear BK148; clear HB; have HO139 := n0_; have HO145 := n1_; have BK142 := n2_; have BK148 := n3_; have HB := n4_; clear n0_ n1_ n2_ n3_ n4_; obtain ⟨hcz34_0, hcz34_1, hfz34_0, hfz34_1⟩ := cq2_ BK142.out; obtain ⟨Ao35, co35, eo35⟩ := Kd.N_slice HO139.out; subst eo35; have p149 : 0 ≤ (0 : Int) := (by omega); have q149 : 0 < (t137.length : Int) := dt_; obtain ⟨ad149, A149_1, c149_1, A149_3, c149_3, e149, hx149_0, hx149_1, hx149_2, hx149_3, hx149_4, hl149_1, hi149_1, hl149_3, hi149_3⟩ := at_T41 (Kd.N_reads' HO139.out).2.2 0 p149 q149; (try rw [← Nbq8.out] at hx149_2); cases e149; obtain ⟨ce149, hce149, hMe149, hcc149⟩ := Kd.N_get HO139.out z41 0 p149 (by first | exact q149 | exact dt_ | (have e_ := (Kd.N_reads' HO139.out).1; omega)); obtain ⟨ua149_1, uc149_1, ua149_3, uc149_3, rfl, ul149_1, ge149_1, ul149_3, ge149_3⟩ := k41_openF hMe149; have hv149_1 := hcc149 1 _ rfl; rw [add_field _ _ 1 (by omega)] at hv149_1; replace hv149_1 := Option.some.inj (hv149_1.symm.trans hx149_1); injection hv149_1 with hva_ hvn_ hvc_; rw [hva_] at ge149_1; rw [hvc_] at ul149_1; have HL149_1 := Aside0.mk (show Kd.V k46 46 _ w.heap.size _ _ ((rd_T41 t137 0).f1) from Kd.V_mk ul149_1 ge149_1); clear hva_ hvn_ hvc_ ge149_1 ul149_1; have hv149_3 := hcc149 3 _ rfl; rw [add_field _ _ 3 (by omega)] at hv149_3; replace hv149_3 := Option.some.inj (hv149_3.symm.trans hx149_3); injection hv149_3 with hva_ hvn_ hvc_; rw [hva_] at ge149_3; rw [hvc_] at ul149_3; have HL149_3 := Aside0.mk (show Kd.V k41 41 _ w.heap.size _ _ ((rd_T41 t137 0).f3) from Kd.V_mk ul149_3 ge149_3); clear hva_ hvn_ hvc_ ge149_3 ul149_3; clear hcc149 hce149; have qi149 : (0 < t137.length) = True := eq_true (by omega); (try rw [show ((0 : Int)).toNat = 0 from rfl] at hx149_0); (try rw [show 0 * 5 = 0 from rfl] at hx149_0); (try rw [Addr.add_zero'] at hx149_0); (try rw [show ((0 : Int)).toNat = 0 from rfl] at hx149_1); (try rw [show 0 * 5 = 0 from rfl] at hx149_1); (try rw [Addr.add_zero'] at hx149_1); (try rw [show ((0 : Int)).toNat = 0 from rfl] at hx149_2); (try rw [show 0 * 5 = 0 from rfl] at hx149_2); (try rw [Addr.add_zero'] at hx149_2); (try rw [show ((0 : Int)).toNat = 0 from rfl] at hx149_3); (try rw [show 0 * 5 = 0 from rfl] at hx149_3); (try rw [Addr.add_zero'] at hx149_3); (try rw [show ((0 : Int)).toNat = 0 from rfl] at hx149_4); (try rw [show 0 * 5 = 0 from rfl] at hx149_4); (try rw [Addr.add_zero'] at hx149_4); have HR149_1 := Aside0.mk hi149_1; have HC149_1 := Aside0.mk hl149_1; clear hi149_1 hl149_1; have HR149_3 := Aside0.mk hi149_3; have HC149_3 := Aside0.mk hl149_3; clear hi149_3 hl149_3; replace p149 := eq_true p149; replace q149 := eq_true q149; have p150 : 0 ≤ (1 : Int) := (by omega); have q150 : 1 < (t137.length : Int) := dt_; obtain ⟨ad150, A150_1, c150_1, A150_3, c150_3, e150, hx150_0, hx150_1, hx150_2, hx150_3, hx150_4, hl150_1, hi150_1, hl150_3, hi150_3⟩ := at_T41 (Kd.N_reads' HO139.out).2.2 1 p150 q150; (try rw [← Nbq8.out] at hx150_2); obtain rfl : ad149 = ad150 := (by injection e150); obtain ⟨ce150, hce150, hMe150, hcc150⟩ := Kd.N_get HO139.out z41 1 p150 (by first | exact q150 | exact dt_ | (have e_ := (Kd.N_reads' HO139.out).1; omega)); obtain ⟨ua150_1, uc150_1, ua150_3, uc150_3, rfl, ul150_1, ge150_1, ul150_3, ge150_3⟩ := k41_openF hMe150; have hv150_1 := hcc150 1 _ rfl; rw [add_field _ _ 1 (by omega)] at hv150_1; replace hv150_1 := Option.some.inj (hv150_1.symm.trans hx150_1); injection hv150_1 with hva_ hvn_ hvc_; rw [hva_] at ge150_1; rw [hvc_] at ul150_1; have HL150_1 := Aside0.mk (show Kd.V k46 46 _ w.heap.size _ _ ((rd_T41 t137 1).f1) from Kd.V_mk ul150_1 ge150_1); clear hva_ hvn_ hvc_ ge150_1 ul150_1; have hv150_3 := hcc150 3 _ rfl; rw [add_field _ _ 3 (by omega)] at hv150_3; replace hv150_3 := Option.some.inj (hv150_3.symm.trans hx150_3); injection hv150_3 with hva_ hvn_ hvc_; rw [hva_] at ge150_3; rw [hvc_] at ul150_3; have HL150_3 := Aside0.mk (show Kd.V k41 41 _ w.heap.size _ _ ((rd_T41 t137 1).f3) from Kd.V_mk ul150_3 ge150_3); clear hva_ hvn_ hvc_ ge150_3 ul150_3; clear hcc150 hce150; (try simp only [show (1 : Int).toNat = 1 from rfl, Nat.reduceMul, Nat.reduceEqDiff, Go.Addr.add, ↓reduceIte] at hx150_0); (try simp only [show (1 : Int).toNat = 1 from rfl, Nat.reduceMul, Nat.reduceEqDiff, Go.Addr.add, ↓reduceIte] at hx150_1); (try simp only [show (1 : Int).toNat = 1 from rfl, Nat.reduceMul, Nat.reduceEqDiff, Go.Addr.add, ↓reduceIte] at hx150_2); (try simp only [show (1 : Int).toNat = 1 from rfl, Nat.reduceMul, Nat.reduceEqDiff, Go.Addr.add, ↓reduceIte] at hx150_3); (try simp only [show (1 : Int).toNat = 1 from rfl, Nat.reduceMul, Nat.reduceEqDiff, Go.Addr.add, ↓reduceIte] at hx150_4); have qi150 : (1 < t137.length) = True := eq_true (by omega); (try rw [show ((1 : Int)).toNat = 1 from rfl] at hx150_0); (try rw [show 1 * 5 = 5 from rfl] at hx150_0); (try rw [show ((1 : Int)).toNat = 1 from rfl] at hx150_1); (try rw [show 1 * 5 = 5 from rfl] at hx150_1); (try rw [show ((1 : Int)).toNat = 1 from rfl] at hx150_2); (try rw [show 1 * 5 = 5 from rfl] at hx150_2); (try rw [show ((1 : Int)).toNat = 1 from rfl] at hx150_3); (try rw [show 1 * 5 = 5 from rfl] at hx150_3); (try rw [show ((1 : Int)).toNat = 1 from rfl] at hx150_4); (try rw [show 1 * 5 = 5 from rfl] at hx150_4); have HR150_1 := Aside0.mk hi150_1; have HC150_1 := Aside0.mk hl150_1; clear hi150_1 hl150_1; have HR150_3 := Aside0.mk hi150_3; have HC150_3 := Aside0.mk hl150_3; clear hi150_3 hl150_3; replace p150 := eq_true p150; replace q150 := eq_true q150; have p151 : 0 ≤ (1 : Int) := (by omega); have q151 : 1 < (t137.length : Int) := dt_; obtain ⟨ad151, A151_1, c151_1, A151_3, c151_3, e151, hx151_0, hx151_1, hx151_2, hx151_3, hx151_4, hl151_1, hi151_1, hl151_3, hi151_3⟩ := at_T41 (Kd.N_reads' HO139.out).2.2 1 p151 q151; (try rw [← Nbq8.out] at hx151_2); obtain rfl : ad149 = ad151 := (by injection e151); obtain ⟨ce151, hce151, hMe151, hcc151⟩ := Kd.N_get HO139.out z41 1 p151 (by first | exact q151 | exact dt_ | (have e_ := (Kd.N_reads' HO139.out).1; omega)); obtain ⟨ua151_1, uc151_1, ua151_3, uc151_3, rfl, ul151_1, ge151_1, ul151_3, ge151_3⟩ := k41_openF hMe151; have hv151_1 := hcc151 1 _ rfl; rw [add_field _ _ 1 (by omega)] at hv151_1; replace hv151_1 := Option.some.inj (hv151_1.symm.trans hx151_1); injection hv151_1 with hva_ hvn_ hvc_; rw [hva_] at ge151_1; rw [hvc_] at ul151_1; have HL151_1 := Aside0.mk (show Kd.V k46 46 _ w.heap.size _ _ ((rd_T41 t137 1).f1) from Kd.V_mk ul151_1 ge151_1); clear hva_ hvn_ hvc_ ge151_1 ul151_1; have hv151_3 := hcc151 3 _ rfl; rw [add_field _ _ 3 (by omega)] at hv151_3; replace hv151_3 := Option.some.inj (hv151_3.symm.trans hx151_3); injection hv151_3 with hva_ hvn_ hvc_; rw [hva_] at ge151_3; rw [hvc_] at ul151_3; have HL151_3 := Aside0.mk (show Kd.V k41 41 _ w.heap.size _ _ ((rd_T41 t137 1).f3) from Kd.V_mk ul151_3 ge151_3); clear hva_ hvn_ hvc_ ge151_3 ul151_3; clear hcc151 hce151; (try simp only [show (1 : Int).toNat = 1 from rfl, Nat.reduceMul, Nat.reduceEqDiff, Go.Addr.add, ↓reduceIte] at hx151_0); (try simp only [show (1 : Int).toNat = 1 from rfl, Nat.reduceMul, Nat.reduceEqDiff, Go.Addr.add, ↓reduceIte] at hx151_1); (try simp only [show (1 : Int).toNat = 1 from rfl, Nat.reduceMul, Nat.reduceEqDiff, Go.Addr.add, ↓reduceIte] at hx151_2); (try simp only [show (1 : Int).toNat = 1 from rfl, Nat.reduceMul, Nat.reduceEqDiff, Go.Addr.add, ↓reduceIte] at hx151_3); (try simp only [show (1 : Int).toNat = 1 from rfl, Nat.reduceMul, Nat.reduceEqDiff, Go.Addr.add, ↓reduceIte] at hx151_4); have qi151 : (1 < t137.length) = True := eq_true (by omega); (try rw [show ((1 : Int)).toNat = 1 from rfl] at hx151_0); (try rw [show 1 * 5 = 5 from rfl] at hx151_0); (try rw [show ((1 : Int)).toNat = 1 from rfl] at hx151_1); (try rw [show 1 * 5 = 5 from rfl] at hx151_1); (try rw [show ((1 : Int)).toNat = 1 from rfl] at hx151_2); (try rw [show 1 * 5 = 5 from rfl] at hx151_2); (try rw [show ((1 : Int)).toNat = 1 from rfl] at hx151_3); (try rw [show 1 * 5 = 5 from rfl] at hx151_3); (try rw [show ((1 : Int)).toNat = 1 from rfl] at hx151_4); (try rw [show 1 * 5 = 5 from rfl] at hx151_4); have HR151_1 := Aside0.mk hi151_1; have HC151_1 := Aside0.mk hl151_1; clear hi151_1 hl151_1; have HR151_3 := Aside0.mk hi151_3; have HC151_3 := Aside0.mk hl151_3; clear hi151_3 hl151_3; replace p151 := eq_true p151; replace q151 := eq_true q151; have ea_ := Option.some.inj (hx150_1.symm.trans hx151_1); injection ea_ with ea_ en_ ec_; subst ea_; subst ec_; clear en_; have ea_ := Option.some.inj (hx150_3.symm.trans hx151_3); injection ea_ with ea_ en_ ec_; subst ea_; subst ec_; clear en_) | (go_at_call 30; (with_reducible refine (parser_Count.calls k _ _ t137 t152 _ ?side1 ?side2 A11.out).mono ?_); (case side1 => repeat (first | exact (Kd.N_reads' HO139.out).2.2 | (with_reducible refine Kd.C_alloc ?_ _) | (with_reducible refine Kd.C_drewN ?_ _) | (with_reducible refine Kd.C_drew ?_))); (case side2 => exact (Kd.N_reads' HO139.out).2.1); rintro e w36 ⟨rfl, hb⟩; refine cut17_ (Kd.N_below (rN_ HO139.out) hb) (Kd.N_below (rN_ HO145.out) hb) (Kd.V_below (rV_ HL149_1.out) hb) (Kd.V_below (rV_ HL149_3.out) hb) (Kd.V_below (rV_ HL150_1.out) hb) (Kd.V_below (rV_ HL150_3.out) hb) (Kd.V_below (rV_ HL151_1.out) hb) (Kd.V_below (rV_ HL151_3.out) hb) (bb_ BK142.out hb) (bb_ BK148.out hb) (Kd.C_below (cb_ HR149_1.out) hb) (Kd.C_below (cb_ HR149_3.out) hb) (Kd.C_below (cb_ HR150_1.out) hb) (Kd.C_below (cb_ HR150_3.out) hb) (Kd.C_below (cb_ HR151_1.out) hb) (Kd.C_below (cb_ HR151_3.out) hb) (below_step (bl2_ HB.out GE142.out GE148.out) hb) ?_; clear HO139 HO145 HL149_1 HL149_3 HL150_1 HL150_3 HL151_1 HL151_3 BK142 BK148 HR149_1 HR149_3 HR150_1 HR150_3 HR151_1 HR151_3 HB; intro HO139 HO145 HL149_1 HL149_3 HL150_1 HL150_3 HL151_1 HL151_3 BK142 BK148 HR149_1 HR149_3 HR150_1 HR150_3 HR151_1 HR151_3 HB; (try clear hb); (try clear hb2); (try clear hk); (try clear hi)) | (go_at_call 31; (with_reducible refine (parser_Depth.calls k _ _ t137 t153 _ ?side1 ?side2 A13.out).mono ?_); (case side1 => repeat (first | exact (Kd.N_reads' HO139.out).2.2 | (with_reducible refine Kd.C_alloc ?_ _) | (with_reducible refine Kd.C_drewN ?_ _) | (with_reducible refine Kd.C_drew ?_))); (case side2 => exact (Kd.N_reads' HO139.out).2.1); rintro e w37 ⟨rfl, hb⟩; refine cut17_ (Kd.N_below (rN_ HO139.out) hb) (Kd.N_below (rN_ HO145.out) hb) (Kd.V_below (rV_ HL149_1.out) hb) (Kd.V_below (rV_ HL149_3.out) hb) (Kd.V_below (rV_ HL150_1.out) hb) (Kd.V_below (rV_ HL150_3.out) hb) (Kd.V_below (rV_ HL151_1.out) hb) (Kd.V_below (rV_ HL151_3.out) hb) (bb_ BK142.out hb) (bb_ BK148.out hb) (Kd.C_below (cb_ HR149_1.out) hb) (Kd.C_below (cb_ HR149_3.out) hb) (Kd.C_below (cb_ HR150_1.out) hb) (Kd.C_below (cb_ HR150_3.out) hb) (Kd.C_below (cb_ HR151_1.out) hb) (Kd.C_below (cb_ HR151_3.out) hb) (below_step (bl2_ HB.out GE142.out GE148.out) hb) ?_; clear HO139 HO145 HL149_1 HL149_3 HL150_1 HL150_3 HL151_1 HL151_3 BK142 BK148 HR149_1 HR149_3 HR150_1 HR150_3 HR151_1 HR151_3 HB; intro HO139 HO145 HL149_1 HL149_3 HL150_1 HL150_3 HL151_1 HL151_3 BK142 BK148 HR149_1 HR149_3 HR150_1 HR150_3 HR151_1 HR151_3 HB; (try clear hb); (try clear hb2); (try clear hk); (try clear hi); obtain ⟨hcz38_0, hcz38_1, hfz38_0, hfz38_1⟩ := cq2_ BK148.out) | (go_at_call 29; (with_reducible refine (pSame.calls k _ _ t137 _ _ t137 true _ ?side1 ?side2 ?side3 ?side4 A16.out).mono ?_); (case side1 => repeat (first | exact (Kd.N_reads' HO139.out).2.2 | (with_reducible refine Kd.C_alloc ?_ _) | (with_reducible refine Kd.C_drewN ?_ _) | (with_reducible refine Kd.C_drew ?_))); (case side2 => exact (Kd.N_reads' HO139.out).2.1); (case side3 => repeat (first | exact (Kd.N_reads' HO139.out).2.2 | (with_reducible refine Kd.C_alloc ?_ _) | (with_reducible refine Kd.C_drewN ?_ _) | (with_reducible refine Kd.C_drew ?_))); (case side4 => exact (Kd.N_reads' HO139.out).2.1); rintro e w39 ⟨rfl, hb⟩; refine cut17_ (Kd.N_below (rN_ HO139.out) hb) (Kd.N_below (rN_ HO145.out) hb) (Kd.V_below (rV_ HL149_1.out) hb) (Kd.V_below (rV_ HL149_3.out) hb) (Kd.V_below (rV_ HL150_1.out) hb) (Kd.V_below (rV_ HL150_3.out) hb) (Kd.V_below (rV_ HL151_1.out) hb) (Kd.V_below (rV_ HL151_3.out) hb) (bb_ BK142.out hb) (bb_ BK148.out hb) (Kd.C_below (cb_ HR149_1.out) hb) (Kd.C_below (cb_ HR149_3.out) hb) (Kd.C_below (cb_ HR150_1.out) hb) (Kd.C_below (cb_ HR150_3.out) hb) (Kd.C_below (cb_ HR151_1.out) hb) (Kd.C_below (cb_ HR151_3.out) hb) (below_step (bl2_ HB.out GE142.out GE148.out) hb) ?_; clear HO139 HO145 HL149_1 HL149_3 HL150_1 HL150_3 HL151_1 HL151_3 BK142 BK148 HR149_1 HR149_3 HR150_1 HR150_3 HR151_1 HR151_3 HB; intro HO139 HO145 HL149_1 HL149_3 HL150_1 HL150_3 HL151_1 HL151_3 BK142 BK148 HR149_1 HR149_3 HR150_1 HR150_3 HR151_1 HR151_3 HB; (try clear hb); (try clear hb2); (try clear hk); (try clear hi); have q40 : (1 : Int) ≤ ((t137.length : Int) : Int) := dt_; obtain ⟨i040, hi040, _, hsz40, _⟩ := info_parts info41; have hroom40 : t137.length ≤ co35 := (Kd.N_reads' HO139.out).2.1; have hC40 : Kd.F k41 _ _ (some ad149) t137.length t137 := (Kd.V_at (base := w.heap.size) (Kd.N_V HO139.out)).2.2; have hcut40 := cut_to (P := Tryd.prog) 23 41 .i64 Tryd.underlying23 hi040 (some ad149) t137.length co35 1 (by omega) q40 hroom40; have hr40 := Kd.F_take (m := 1) hC40 (by omega); have hy40 : y155.length = (1 : Int).toNat := (by rw [Ny155.out, List.length_take]; omega); rw [← Ny155.out] at hr40; rw [← hy40] at hcut40; have HO159 := Aside0.mk (show Kd.V k41 41 _ w.heap.size _ (.slice (some ad149) y155.length co35) y155 from Kd.V_mk (by omega) hr40); have HC159 := Aside0.mk (show y155.length ≤ co35 from by omega); clear hr40 hC40 hroom40 hi040 hsz40; have KY40 := Aside0.mk hy40; clear hy40; replace q40 := eq_true q40) | (go_at_call 29; (with_reducible refine (pSame.calls k _ _ t137 _ _ y155 false _ ?side1 ?side2 ?side3 ?side4 A19.out).mono ?_); (case side1 => repeat (first | exact (Kd.N_reads' HO139.out).2.2 | (with_reducible refine Kd.C_alloc ?_ _) | (with_reducible refine Kd.C_drewN ?_ _) | (with_reducible refine Kd.C_drew ?_))); (case side2 => exact (Kd.N_reads' HO139.out).2.1); (case side3 => repeat (first | exact (Kd.V_reads' HO159.out).2.2 | (with_reducible refine Kd.C_alloc ?_ _) | (with_reducible refine Kd.C_drewN ?_ _) | (with_reducible refine Kd.C_drew ?_))); (case side4 => exact (Kd.V_reads' HO159.out).2.1); rintro e w41 ⟨rfl, hb⟩; refine cut18_ (Kd.N_below (rN_ HO139.out) hb) (Kd.N_below (rN_ HO145.out) hb) (Kd.V_below (rV_ HL149_1.out) hb) (Kd.V_below (rV_ HL149_3.out) hb) (Kd.V_below (rV_ HL150_1.out) hb) (Kd.V_below (rV_ HL150_3.out) hb) (Kd.V_below (rV_ HL151_1.out) hb) (Kd.V_below (rV_ HL151_3.out) hb) (Kd.V_below (rV_ HO159.out) hb) (bb_ BK142.out hb) (bb_ BK148.out hb) (Kd.C_below (cb_ HR149_1.out) hb) (Kd.C_below (cb_ HR149_3.out) hb) (Kd.C_below (cb_ HR150_1.out) hb) (Kd.C_below (cb_ HR150_3.out) hb) (Kd.C_below (cb_ HR151_1.out) hb) (Kd.C_below (cb_ HR151_3.out) hb) (below_step (bl2_ HB.out GE142.out GE148.out) hb) ?_; clear HO139 HO145 HL149_1 HL149_3 HL150_1 HL150_3 HL151_1 HL151_3 HO159 BK142 BK148 HR149_1 HR149_3 HR150_1 HR150_3 HR151_1 HR151_3 HB; intro HO139 HO145 HL149_1 HL149_3 HL150_1 HL150_3 HL151_1 HL151_3 HO159 BK142 BK148 HR149_1 HR149_3 HR150_1 HR150_3 HR151_1 HR151_3 HB; (try clear hb); (try clear hb2); (try clear hk); (try clear hi)) | (go_at_call 26; (with_reducible refine (parser_Check.calls k _ _ t137 t161 _ ?side1 ?side2 A21.out).mono ?_); (case side1 => repeat (first | exact (Kd.N_reads' HO139.out).2.2 | (with_reducible refine Kd.C_alloc ?_ _) | (with_reducible refine Kd.C_drewN ?_ _) | (with_reducible refine Kd.C_drew ?_))); (case side2 => exact (Kd.N_reads' HO139.out).2.1); rintro e w42 ⟨rfl, hb⟩; refine cut18_ (Kd.N_below (rN_ HO139.out) hb) (Kd.N_below (rN_ HO145.out) hb) (Kd.V_below (rV_ HL149_1.out) hb) (Kd.V_below (rV_ HL149_3.out) hb) (Kd.V_below (rV_ HL150_1.out) hb) (Kd.V_below (rV_ HL150_3.out) hb) (Kd.V_below (rV_ HL151_1.out) hb) (Kd.V_below (rV_ HL151_3.out) hb) (Kd.V_below (rV_ HO159.out) hb) (bb_ BK142.out hb) (bb_ BK148.out hb) (Kd.C_below (cb_ HR149_1.out) hb) (Kd.C_below (cb_ HR149_3.out) hb) (Kd.C_below (cb_ HR150_1.out) hb) (Kd.C_below (cb_ HR150_3.out) hb) (Kd.C_below (cb_ HR151_1.out) hb) (Kd.C_below (cb_ HR151_3.out) hb) (below_step (bl2_ HB.out GE142.out GE148.out) hb) ?_; clear HO139 HO145 HL149_1 HL149_3 HL150_1 HL150_3 HL151_1 HL151_3 HO159 BK142 BK148 HR149_1 HR149_3 HR150_1 HR150_3 HR151_1 HR151_3 HB; intro HO139 HO145 HL149_1 HL149_3 HL150_1 HL150_3 HL151_1 HL151_3 HO159 BK142 BK148 HR149_1 HR149_3 HR150_1 HR150_3 HR151_1 HR151_3 HB; (try clear hb); (try clear hb2); (try clear hk); (try clear hi)) | ((with_reducible refine gate_dst (N := 77) rfl ?_); (try (refine gate_guard (by rfl) ?_; dsimp only)); refine Kd.N_lit k41 _ 41 ?hg (N' := 77) ?hd (xs := ([(⟨(⟨#[59]⟩ : ByteArray), ([] : List (S46)), false, ([] : List (S41)), 0⟩ : S41)] : List (S41))) (inner := [.string (⟨#[59]⟩ : ByteArray), .slice none 0 0, .bool false, .slice none 0 0, .int .i64 0]) (ok := (fun k_ => some k_ ≠ (.slice (some ad149) t137.length co35 : Value).ownBlock ∧ some k_ ≠ (v144 : Value).ownBlock ∧ k_ ≠ gb142 ∧ k_ ≠ gb148)) (okp := (fun k_ => some k_ ≠ (.slice (some ad149) t137.length co35 : Value).ownBlock ∧ some k_ ≠ (v144 : Value).ownBlock ∧ k_ ≠ gb142 ∧ k_ ≠ gb148)) ?hr ?hp (fun _ hk => hk) ((show ∀ k_, w42.heap.size ≤ k_ → (fun k_ => some k_ ≠ (.slice (some ad149) t137.length co35 : Value).ownBlock ∧ some k_ ≠ (v144 : Value).ownBlock ∧ k_ ≠ gb142 ∧ k_ ≠ gb148) k_ from fun k_ hk => ⟨Kd.fresh' (Kd.N_lt (rN_ HO139.out)) k_ hk, Kd.fresh' (Kd.N_lt (rN_ HO145.out)) k_ hk, Kd.freshB (g := gb142) (o := .cells #[.int .i64 t140, .int .i64 t141] 26 (0, 0)) (bk_ BK142.out) k_ hk, Kd.freshB (g := gb148) (o := .cells #[.int .i64 t146, .int .i64 t147] 26 (0, 0)) (bk_ BK148.out) k_ hk⟩) _ (Nat.le_refl _)) (Below.refl _ _) (Nat.le_refl _) (by simp) ?_; (case hd => rfl); (case hg => rfl); (case hr => first | (go_simp; done) | (go_simp; rfl)); (case hp => exact (Reps.c5 (show Kd.FK k41 _ _ (⟨(⟨#[59]⟩ : ByteArray), ([] : List (S46)), false, ([] : List (S41)), 0⟩ : S41) [.string (⟨#[59]⟩ : ByteArray), .slice none 0 0, .bool false, .slice none 0 0, .int .i64 0] from (k41_mkF _ _ (⟨(⟨#[59]⟩ : ByteArray), ([] : List (S46)), false, ([] : List (S41)), 0⟩ : S41) (Nat.le_refl _) (Kd.F_nil _ _ _) (Nat.le_refl _) (Kd.F_nil _ _ _))) (Reps.none _ _))); intro v163 w43 ho44 hb hg_ hnew_; clear hg_ hnew_; (first | rw [← Ny162.out] at ho44 | (simp only [Int.reduceToNat] at ho44; rw [← Ny162.out] at ho44)); refine cut19_ (Kd.N_elder' (rN_ HO139.out) (Kd.N_base ho44) hb) (Kd.N_elder' (rN_ HO145.out) (Kd.N_base ho44) hb) (Kd.V_elder' (rV_ HL149_1.out) (Kd.N_base ho44) hb) (Kd.V_elder' (rV_ HL149_3.out) (Kd.N_base ho44) hb) (Kd.V_elder' (rV_ HL150_1.out) (Kd.N_base ho44) hb) (Kd.V_elder' (rV_ HL150_3.out) (Kd.N_base ho44) hb) (Kd.V_elder' (rV_ HL151_1.out) (Kd.N_base ho44) hb) (Kd.V_elder' (rV_ HL151_3.out) (Kd.N_base ho44) hb) (Kd.V_elder' (rV_ HO159.out) (Kd.N_base ho44) hb) (Kd.N_lower ho44 (below_size (bl2_ HB.out GE142.out GE148.out))) (bb_ BK142.out hb) (bb_ BK148.out hb) (Kd.C_below (cb_ HR149_1.out) hb) (Kd.C_below (cb_ HR149_3.out) hb) (Kd.C_below (cb_ HR150_1.out) hb) (Kd.C_below (cb_ HR150_3.out) hb) (Kd.C_below (cb_ HR151_1.out) hb) (Kd.C_below (cb_ HR151_3.out) hb) (below_step (bl2_ HB.out GE142.out GE148.out) hb) ?_; clear HO139 HO145 HL149_1 HL149_3 HL150_1 HL150_3 HL151_1 HL151_3 HO159 BK142 BK148 HR149_1 HR149_3 HR150_1 HR150_3 HR151_1 HR151_3 HB; intro HO139 HO145 HL149_1 HL149_3 HL150_1 HL150_3 HL151_1 HL151_3 HO159 HO164 BK142 BK148 HR149_1 HR149_3 HR150_1 HR150_3 HR151_1 HR151_3 HB; clear hb ho44; obtain ⟨Ao45, co45, eo45⟩ := Kd.N_slice HO164.out; subst eo45) | (go_at_call 26; (with_reducible refine (parser_Check.calls k _ _ y162 t165 _ ?side1 ?side2 A23.out).mono ?_); (case side1 => repeat (first | exact (Kd.N_reads' HO164.out).2.2 | (with_reducible refine Kd.C_alloc ?_ _) | (with_reducible refine Kd.C_drewN ?_ _) | (with_reducible refine Kd.C_drew ?_))); (case side2 => exact (Kd.N_reads' HO164.out).2.1); rintro e w46 ⟨rfl, hb⟩; refine cut19_ (Kd.N_below (rN_ HO139.out) hb) (Kd.N_below (rN_ HO145.out) hb) (Kd.V_below (rV_ HL149_1.out) hb) (Kd.V_below (rV_ HL149_3.out) hb) (Kd.V_below (rV_ HL150_1.out) hb) (Kd.V_below (rV_ HL150_3.out) hb) (Kd.V_below (rV_ HL151_1.out) hb) (Kd.V_below (rV_ HL151_3.out) hb) (Kd.V_below (rV_ HO159.out) hb) (Kd.N_below (rN_ HO164.out) hb) (bb_ BK142.out hb) (bb_ BK148.out hb) (Kd.C_below (cb_ HR149_1.out) hb) (Kd.C_below (cb_ HR149_3.out) hb) (Kd.C_below (cb_ HR150_1.out) hb) (Kd.C_below (cb_ HR150_3.out) hb) (Kd.C_below (cb_ HR151_1.out) hb) (Kd.C_below (cb_ HR151_3.out) hb) (below_step (bl2_ HB.out GE142.out GE148.out) hb) ?_; clear HO139 HO145 HL149_1 HL149_3 HL150_1 HL150_3 HL151_1 HL151_3 HO159 HO164 BK142 BK148 HR149_1 HR149_3 HR150_1 HR150_3 HR151_1 HR151_3 HB; intro HO139 HO145 HL149_1 HL149_3 HL150_1 HL150_3 HL151_1 HL151_3 HO159 HO164 BK142 BK148 HR149_1 HR149_3 HR150_1 HR150_3 HR151_1 HR151_3 HB; (try clear hb); (try clear hb2); (try clear hk); (try clear hi)) | (go_at_call 51; (with_reducible refine (parser_Find.calls k (fun k_ => ((some k_ ≠ (v144 : Value).ownBlock ∧ (k_ ≠ gb142 ∧ k_ ≠ gb148)) ∧ some k_ ≠ (.slice Ao45 y162.length co45 : Value).ownBlock)) _ _ t137 (⟨#[103, 114, 111, 117, 112]⟩ : ByteArray) t166 _ ?side1 A25.out).mono ?_); (case side1 => exact Kd.N_V (HO139.out)); rintro e w47 ⟨v167, rfl, ho0, hb⟩; refine cut20_ (Kd.N_elder' (rN_ HO139.out) (Kd.N_base ho0) hb) (Kd.N_elder' (rN_ HO145.out) (Kd.N_base ho0) hb) (Kd.V_elder' (rV_ HL149_1.out) (Kd.N_base ho0) hb) (Kd.V_elder' (rV_ HL149_3.out) (Kd.N_base ho0) hb) (Kd.V_elder' (rV_ HL150_1.out) (Kd.N_base ho0) hb) (Kd.V_elder' (rV_ HL150_3.out) (Kd.N_base ho0) hb) (Kd.V_elder' (rV_ HL151_1.out) (Kd.N_base ho0) hb) (Kd.V_elder' (rV_ HL151_3.out) (Kd.N_base ho0) hb) (Kd.V_elder' (rV_ HO159.out) (Kd.N_base ho0) hb) (Kd.N_elder' (rN_ HO164.out) (Kd.N_base ho0) hb) (Kd.N_lower (Kd.N_mono (ok' := fun k_ => some k_ ≠ (v144 : Value).ownBlock ∧ some k_ ≠ (.slice Ao45 y162.length co45 : Value).ownBlock ∧ k_ ≠ gb142 ∧ k_ ≠ gb148) ho0 (fun k_ hk_ => ⟨Or.elim hk_ (fun hs_ => hs_.1.1) (fun hn_ => (Kd.fresh' (Kd.N_lt (rN_ HO145.out)) k_ hn_)), Or.elim hk_ (fun hs_ => hs_.2) (fun hn_ => (Kd.fresh' (Kd.N_lt (rN_ HO164.out)) k_ hn_)), Or.elim hk_ (fun hs_ => hs_.1.2.1) (fun hn_ => (Kd.freshB (g := gb142) (o := .cells #[.int .i64 t140, .int .i64 t141] 26 (0, 0)) (bk_ BK142.out) k_ hn_)), Or.elim hk_ (fun hs_ => hs_.1.2.2) (fun hn_ => (Kd.freshB (g := gb148) (o := .cells #[.int .i64 t146, .int .i64 t147] 26 (0, 0)) (bk_ BK148.out) k_ hn_))⟩)) (below_size (bl2_ HB.out GE142.out GE148.out))) (bb_ BK142.out hb) (bb_ BK148.out hb) (Kd.C_below (cb_ HR149_1.out) hb) (Kd.C_below (cb_ HR149_3.out) hb) (Kd.C_below (cb_ HR150_1.out) hb) (Kd.C_below (cb_ HR150_3.out) hb) (Kd.C_below (cb_ HR151_1.out) hb) (Kd.C_below (cb_ HR151_3.out) hb) (below_step (bl2_ HB.out GE142.out GE148.out) hb) ?_; clear HO139 HO145 HL149_1 HL149_3 HL150_1 HL150_3 HL151_1 HL151_3 HO159 HO164 BK142 BK148 HR149_1 HR149_3 HR150_1 HR150_3 HR151_1 HR151_3 HB; intro HO139 HO145 HL149_1 HL149_3 HL150_1 HL150_3 HL151_1 HL151_3 HO159 HO164 HO168 BK142 BK148 HR149_1 HR149_3 HR150_1 HR150_3 HR151_1 HR151_3 HB; (try clear hb); (try clear hb2); (try clear hk); (try clear hi); (try clear ho0); obtain ⟨Ao48, co48, eo48⟩ := Kd.N_slice HO168.out; subst eo48))
                go_ret
                exact ⟨er_, bl2_ HB.out GE142.out GE148.out⟩
               ·
                rw [if_neg c24] at H
                exact absurd H (by simp)
              ·
               rw [if_neg c22] at H
               exact absurd H (by simp)
            ·
             rw [if_neg c18] at H
             exact absurd H (by simp)
           ·
            replace c17 := Bool.eq_false_iff.mpr c17
            subst c17
            have H1 : (none) = some r := by rw [if_neg (show ¬ (false = true) by decide)] at H; exact H
            clear H
            have H := H1
            clear H1
            exact absurd H (by simp)
          ·
           rw [if_neg c15] at H
           exact absurd H (by simp)
         ·
          rw [if_neg c14] at H
          exact absurd H (by simp)
        ·
         rw [if_neg c12] at H
         exact absurd H (by simp)
       ·
        rw [if_neg c10] at H
        exact absurd H (by simp)
      ·
       replace c9 := Bool.eq_false_iff.mpr c9
       subst c9
       have H1 : (none) = some r := by rw [if_neg (show ¬ (false = true) by decide)] at H; exact H
       clear H
       have H := H1
       clear H1
       exact absurd H (by simp)
     ·
      rw [if_neg c7] at H
      exact absurd H (by simp)
    ·
     rw [if_neg c6] at H
     exact absurd H (by simp)
   ·
    rw [if_neg c5] at H
    exact absurd H (by simp)
  ·
   rw [if_neg c4] at H
   exact absurd H (by simp)
 ·
  rw [if_neg c3] at H
  exact absurd H (by simp)
end Go.Proofs.YtkifdadhojbohaaDoor.Pr
