/- Joined out of the texts of this proof that bear the names GivK PrZ8 PrZ3 PzE RowPrinterLine: what each shows stands over it there. -/
import Derived.Test.YtkifdadhojbohaaGreatDoorZp1
import Derived.Test.YtkifdadhojbohaaGreatDoorZk1
import Derived.Test.YtkifdadhojbohaaGreatDoorZv1
import Derived.Test.YtkifdadhojbohaaGreatDoorZo1
import Derived.Test.YtkifdadhojbohaaGreatDoorZf2
import Derived.Test.YtkifdadhojbohaaGreatDoorZr1
import Derived.Test.YtkifdadhojbohaaGreatDoorCards
import Derived.Test.YtkifdadhojbohaaGreatDoorTie
import Derived.WalkKit
import Derived.OpenShut
import Derived.ShutString
import Derived.ChangeOld
import Derived.SizedLaws
import Derived.SevenTiedAt
import Derived.Handed
import Derived.LaidLaws
import Derived.Lib.SmallJoins
import Derived.Carry
set_option linter.unusedVariables false
set_option linter.unusedSimpArgs false
set_option maxHeartbeats 8000000
set_option maxRecDepth 100000
namespace Go.Proofs.YtkifdadhojbohaaGreatDoor.Pr
open Go.Proofs.YtkifdadhojbohaaGreatDoor Go.Proofs.YtkifdadhojbohaaGreatDoor.Pu
open Go.RowKit Go.Proofs.YtkifdadhojbohaaGreatDoorW.PrintWords Go.Proofs.YtkifdadhojbohaaGreatDoorW.PrintLast Go.Proofs.YtkifdadhojbohaaGreatDoorW.PrintMore
def FsG (k : Nat) (a0 : ByteArray) (l1 : List S46) : Prop := (∀ t ∈ l1, SpA k t) ∧ l1.length ≤ 70368744177664 ∧ (lst a0 ++ atomsL none l1).length ≤ 70368744177664
instance (k : Nat) (a0 : ByteArray) (l1 : List S46) : Decidable (FsG k a0 l1) := by unfold FsG; infer_instance
theorem FsG.mono {k : Nat} {a0 : ByteArray} {l1 : List S46} (h : FsG k a0 l1) : FsG (k + 1) a0 l1 := ⟨fun t ht => (h.1 t ht).mono, h.2⟩
def printer_first.f (k : Nat) (a0 : ByteArray) (l1 : List S46) (b2 : Bool) (l3 : List S41) (a4 : Int) : Option ByteArray := if FsG k a0 l1 then some (str ((lst a0 ++ atomsL none l1) ++ (if b2 = true then [32, 123] else [59]))) else none
theorem printer_first.mono : ∀ a0 l1 b2 l3 a4 k, LeO (printer_first.f k a0 l1 b2 l3 a4) (printer_first.f (k + 1) a0 l1 b2 l3 a4) := by
  intro a0 l1 b2 l3 a4 k r h
  unfold printer_first.f at h ⊢
  by_cases hs : FsG k a0 l1
  · rw [if_pos hs] at h
    rw [if_pos hs.mono]
    exact h
  · rw [if_neg hs] at h
    cases h
theorem printer_first.calls (k : Nat) (a0 : ByteArray) (A1 : Option Addr) (c1 : Nat) (l1 : List S46) (b2 : Bool) (A3 : Option Addr) (c3 : Nat) (l3 : List S41) (a4 : Int) (r : ByteArray) (w : World) (hG : Gl w) (hr1 : Kd.C k46 w A1 l1.length l1) (hc1 : l1.length ≤ c1) (hr3 : Kd.C k41 w A3 l3.length l3) (hc3 : l3.length ≤ c3) (h : printer_first.f k a0 l1 b2 l3 a4 = some r) :
    Calls Tryz.prog 23 #[.agg #[.string a0, .slice A1 l1.length c1, .bool b2, .slice A3 l3.length c3, .int .i64 a4]] w fun e w' => e = .returned (.string r) ∧ Below w.heap.size w w' := by
  unfold printer_first.f at h
  by_cases hs : FsG k a0 l1
  · rw [if_pos hs] at h
    obtain rfl := Option.some.inj h
    exact first_s k w hG a0 A1 c1 l1 b2 A3 l3.length c3 a4 hr1 hc1 hs.1 hs.2.1 hs.2.2
  · rw [if_neg hs] at h
    cases h
end Go.Proofs.YtkifdadhojbohaaGreatDoor.Pr
namespace Go.Proofs.YtkifdadhojbohaaGreatDoor.Pr
open Go.Proofs.YtkifdadhojbohaaGreatDoor
open Go.RowKit Go.Proofs.YtkifdadhojbohaaGreatDoorW.PrintWords Go.Proofs.YtkifdadhojbohaaGreatDoorW.PrintLast Go.Proofs.YtkifdadhojbohaaGreatDoorW.PrintMore
attribute [local go_sem] max2_int min2_int max_two min_two max_three min_three max_four min_four   -- for this text's walks alone
set_option linter.unusedVariables false
set_option linter.unusedSimpArgs false
def printer_Line.f (k : Nat) (a0_0 : ByteArray) (l0_1 : List (S46)) (a0_2 : Bool) (l0_3 : List (S41)) (a0_4 : Int) : Option (ByteArray × Int) := (parser_Check.f k (([(⟨a0_0, l0_1, a0_2, l0_3, a0_4⟩ : S41)] : List (S41)))).bind fun t155 => (if t155 = 0 then ((printer_first.f k a0_0 l0_1 a0_2 l0_3 a0_4).bind fun t156 => (some (t156, 0))) else (some ((⟨#[]⟩ : ByteArray), t155)))
theorem printer_Line.mono : ∀ a0 a1 a2 a3 a4 k, LeO (printer_Line.f k a0 a1 a2 a3 a4) (printer_Line.f (k + 1) a0 a1 a2 a3 a4) := by
 intro a0 a1 a2 a3 a4 k
 unfold printer_Line.f
 repeat' first
   | (with_reducible exact LeO.refl _)
   | exact parser_Check.mono _ _
   | exact printer_first.mono _ _ _ _ _ _
   | exact LeO.none _
   | refine LeO.ite ?_ ?_
   | refine LeO.bind ?_ (fun _ => ?_)
theorem printer_Line.calls (k : Nat) (a0_0 : ByteArray) (P0_1_ : Nat → Prop) (A0_1 : Option Addr) (c0_1 : Nat) (l0_1 : List (S46)) (a0_2 : Bool) (P0_3_ : Nat → Prop) (A0_3 : Option Addr) (c0_3 : Nat) (l0_3 : List (S41)) (a0_4 : Int) (r1 : ByteArray) (r2 : Int) (w : World) (hG : Gl w) (hs0_1 : Kd.V k46 50 w w.heap.size (fun k_ => P0_1_ k_) (.slice A0_1 l0_1.length c0_1) l0_1) (hs0_3 : Kd.V k41 25 w w.heap.size (fun k_ => P0_3_ k_) (.slice A0_3 l0_3.length c0_3) l0_3) (h : printer_Line.f k a0_0 l0_1 a0_2 l0_3 a0_4 = some (r1, r2)) :
  Calls Tryz.prog 8 #[.agg #[.string a0_0, .slice A0_1 l0_1.length c0_1, .bool a0_2, .slice A0_3 l0_3.length c0_3, .int .i64 a0_4]] w fun e w' => e = .returned (.tuple #[.string r1, .int .i64 r2]) ∧ Below w.heap.size w w' := by
 have hu25 := Tryz.underlying25; have HO0_1 := Aside0.mk (show Kd.V k46 50 w w.heap.size (fun k_ => ((P0_1_ k_ ∨ P0_3_ k_) ∨ w.heap.size ≤ k_)) (.slice A0_1 l0_1.length c0_1) l0_1 from Kd.V_mono hs0_1 (fun k_ hk => .inl (.inl hk))); have HO0_3 := Aside0.mk (show Kd.V k41 25 w w.heap.size (fun k_ => ((P0_1_ k_ ∨ P0_3_ k_) ∨ w.heap.size ≤ k_)) (.slice A0_3 l0_3.length c0_3) l0_3 from Kd.V_mono hs0_3 (fun k_ hk => .inl (.inr hk))); have HB := Aside0.mk (Below.refl w.heap.size w); have H : ((parser_Check.f k (([(⟨a0_0, l0_1, a0_2, l0_3, a0_4⟩ : S41)] : List (S41)))).bind fun t155 => (if t155 = 0 then ((printer_first.f k a0_0 l0_1 a0_2 l0_3 a0_4).bind fun t156 => (some (t156, 0))) else (some ((⟨#[]⟩ : ByteArray), t155)))) = some (r1, r2) := h; clear h; obtain ⟨y152, hy152⟩ : ∃ y_ : List (S41), y_ = (([(⟨a0_0, l0_1, a0_2, l0_3, a0_4⟩ : S41)] : List (S41))) := ⟨_, rfl⟩; replace H : ((parser_Check.f k y152).bind fun t155 => (if t155 = 0 then ((printer_first.f k a0_0 l0_1 a0_2 l0_3 a0_4).bind fun t156 => (some (t156, 0))) else (some ((⟨#[]⟩ : ByteArray), t155)))) = some (r1, r2) := by first | (rw [hy152]; with_reducible exact H) | (have H2_ := (Option.bind_some _ _).symm.trans H; rw [hy152]; with_reducible exact H2_) | (have H2_ := (Option.bind_some _ _).symm.trans H; with_reducible exact H2_) | with_reducible exact H | (rw [hy152]; exact H) | exact H
 have Ny152 := Aside0.mk hy152; clear hy152; replace H := bn_ H; obtain ⟨t155, A2, H⟩ := H; (try dsimp only at H); replace H := (sp_ H).symm; obtain ⟨c3, H⟩ | ⟨c3, H⟩ := H
 ·
  have c3b0 := beq_eq_false_iff_ne.mpr c3; have c3b1 := bne_iff_ne.mpr c3; simp only [Option.some.injEq, Prod.mk.injEq] at H; obtain ⟨rfl, rfl⟩ := H
  go_enter Tryz.func8, Tryz.ntmps8
  go_wp2_with (first | ((with_reducible refine gate_dst (N := 1) rfl ?_); refine bx_ (N := 1) (cs := #[.string a0_0, .slice A0_1 l0_1.length c0_1, .bool a0_2, .slice A0_3 l0_3.length c0_3, .int .i64 a0_4]) (t := 25) ?_; intro gb151 hg w13 hbox hb; refine cut6_ (Kd.V_below (Kd.V_elderB (rV_ HO0_1.out) gb151 (Nat.le_of_eq hg.symm)) hb) (Kd.V_below (Kd.V_elderB (rV_ HO0_3.out) gb151 (Nat.le_of_eq hg.symm)) hb) (below_step (bl_ HB.out) hb) (hbox) (bz_ (w := w) hg (bl_ HB.out)) (bz_ (w := w) hg (bl_ HB.out)) ?_; clear HO0_1 HO0_3 HB; intro HO0_1 HO0_3 HB BK151 GW151 GE151; clear hb hbox hg; obtain ⟨hcz14_0, hcz14_1, hcz14_2, hcz14_3, hcz14_4, hfz14_0, hfz14_1, hfz14_2, hfz14_3, hfz14_4⟩ := cq5_ BK151.out) | ((with_reducible refine gate_dst (N := 6) rfl ?_); refine Kd.N_lit k41 _ 25 ?hg (N' := 6) ?hd (xs := ([(⟨a0_0, l0_1, a0_2, l0_3, a0_4⟩ : S41)] : List (S41))) (inner := [.string a0_0, .slice A0_1 l0_1.length c0_1, .bool a0_2, .slice A0_3 l0_3.length c0_3, .int .i64 a0_4]) (ok := (fun k_ => ((P0_1_ k_ ∨ P0_3_ k_) ∨ w.heap.size ≤ k_) ∧ k_ ≠ gb151)) (okp := (fun k_ => ((P0_1_ k_ ∨ P0_3_ k_) ∨ w.heap.size ≤ k_) ∧ k_ ≠ gb151)) ?hr ?hp (fun _ hk => hk) ((show ∀ k_, w13.heap.size ≤ k_ → (fun k_ => ((P0_1_ k_ ∨ P0_3_ k_) ∨ w.heap.size ≤ k_) ∧ k_ ≠ gb151) k_ from fun k_ hk => ⟨(.inr (Nat.le_trans (below_size (bl1_ HB.out GE151.out)) hk)), Kd.freshB (g := gb151) (o := .cells #[.string a0_0, .slice A0_1 l0_1.length c0_1, .bool a0_2, .slice A0_3 l0_3.length c0_3, .int .i64 a0_4] 25 (0, 0)) (bk_ BK151.out) k_ hk⟩) _ (Nat.le_refl _)) (Below.refl _ _) (Nat.le_refl _) (by simp) ?_; (case hd => rfl); (case hg => rfl); (case hr => first | (go_simp; done) | (go_simp; rfl)); (case hp => exact (Reps.c5 (show Kd.FK k41 _ _ (⟨a0_0, l0_1, a0_2, l0_3, a0_4⟩ : S41) [.string a0_0, .slice A0_1 l0_1.length c0_1, .bool a0_2, .slice A0_3 l0_3.length c0_3, .int .i64 a0_4] from (k41_mkF _ _ (⟨a0_0, l0_1, a0_2, l0_3, a0_4⟩ : S41) (Kd.V_reads' (Kd.V_mono (ok' := (fun k_ => ((P0_1_ k_ ∨ P0_3_ k_) ∨ w.heap.size ≤ k_) ∧ k_ ≠ gb151)) (HO0_1.out) (fun k_ hk => ⟨hk.1, hk.2⟩))).2.1 (Kd.V_F (Kd.V_mono (ok' := (fun k_ => ((P0_1_ k_ ∨ P0_3_ k_) ∨ w.heap.size ≤ k_) ∧ k_ ≠ gb151)) (HO0_1.out) (fun k_ hk => ⟨hk.1, hk.2⟩))) (Kd.V_reads' (Kd.V_mono (ok' := (fun k_ => ((P0_1_ k_ ∨ P0_3_ k_) ∨ w.heap.size ≤ k_) ∧ k_ ≠ gb151)) (HO0_3.out) (fun k_ hk => ⟨hk.1, hk.2⟩))).2.1 (Kd.V_F (Kd.V_mono (ok' := (fun k_ => ((P0_1_ k_ ∨ P0_3_ k_) ∨ w.heap.size ≤ k_) ∧ k_ ≠ gb151)) (HO0_3.out) (fun k_ hk => ⟨hk.1, hk.2⟩))))) (Reps.none _ _))); intro v153 w15 ho16 hb hg_ hnew_; clear hg_ hnew_; (first | rw [← Ny152.out] at ho16 | (simp only [Int.reduceToNat] at ho16; rw [← Ny152.out] at ho16)); refine cut5_ (Kd.V_elder' (rV_ HO0_1.out) (Kd.N_base ho16) hb) (Kd.V_elder' (rV_ HO0_3.out) (Kd.N_base ho16) hb) (Kd.N_lower ho16 (below_size (bl1_ HB.out GE151.out))) (bb_ BK151.out hb) (below_step (bl1_ HB.out GE151.out) hb) ?_; clear HO0_1 HO0_3 BK151 HB; intro HO0_1 HO0_3 HO154 BK151 HB; clear hb ho16; obtain ⟨Ao17, co17, eo17⟩ := Kd.N_slice HO154.out; subst eo17) | ((with_reducible refine gate_callee (f := 22) rfl ?_); refine gk_ (some 7) Tryz.func22 (parser_Check.calls k _ _ y152 t155 _ ?side1 ?side2 A2.out) ?_; (case side1 => repeat (first | exact (Kd.N_reads' HO154.out).2.2 | (with_reducible refine Kd.C_alloc ?_ _) | (with_reducible refine Kd.C_drewN ?_ _) | (with_reducible refine Kd.C_drew ?_))); (case side2 => exact (Kd.N_reads' HO154.out).2.1); rintro e w18 ⟨rfl, hb⟩; refine ⟨_, rfl, ?_⟩; refine cut5_ (Kd.V_below (rV_ HO0_1.out) hb) (Kd.V_below (rV_ HO0_3.out) hb) (Kd.N_below (rN_ HO154.out) hb) (bb_ BK151.out hb) (below_step (bl1_ HB.out GE151.out) hb) ?_; clear hb HO0_1 HO0_3 HO154 BK151 HB; intro HO0_1 HO0_3 HO154 BK151 HB))
  go_ret2
  exact ⟨er_, bl1_ HB.out GE151.out⟩
 have c3b0 := beq_iff_eq.mpr c3; have c3b1 := bne_eq_false_iff_eq.mpr c3; clear c3; replace H := bn_ H; obtain ⟨t156, A4, H⟩ := H; (try dsimp only at H); simp only [Option.some.injEq, Prod.mk.injEq] at H; obtain ⟨rfl, rfl⟩ := H
 go_enter Tryz.func8, Tryz.ntmps8
 go_wp2_with (first | ((with_reducible refine gate_dst (N := 1) rfl ?_); refine bx_ (N := 1) (cs := #[.string a0_0, .slice A0_1 l0_1.length c0_1, .bool a0_2, .slice A0_3 l0_3.length c0_3, .int .i64 a0_4]) (t := 25) ?_; intro gb151 hg w5 hbox hb; refine cut6_ (Kd.V_below (Kd.V_elderB (rV_ HO0_1.out) gb151 (Nat.le_of_eq hg.symm)) hb) (Kd.V_below (Kd.V_elderB (rV_ HO0_3.out) gb151 (Nat.le_of_eq hg.symm)) hb) (below_step (bl_ HB.out) hb) (hbox) (bz_ (w := w) hg (bl_ HB.out)) (bz_ (w := w) hg (bl_ HB.out)) ?_; clear HO0_1 HO0_3 HB; intro HO0_1 HO0_3 HB BK151 GW151 GE151; clear hb hbox hg; obtain ⟨hcz6_0, hcz6_1, hcz6_2, hcz6_3, hcz6_4, hfz6_0, hfz6_1, hfz6_2, hfz6_3, hfz6_4⟩ := cq5_ BK151.out) | ((with_reducible refine gate_dst (N := 6) rfl ?_); refine Kd.N_lit k41 _ 25 ?hg (N' := 6) ?hd (xs := ([(⟨a0_0, l0_1, a0_2, l0_3, a0_4⟩ : S41)] : List (S41))) (inner := [.string a0_0, .slice A0_1 l0_1.length c0_1, .bool a0_2, .slice A0_3 l0_3.length c0_3, .int .i64 a0_4]) (ok := (fun k_ => ((P0_1_ k_ ∨ P0_3_ k_) ∨ w.heap.size ≤ k_) ∧ k_ ≠ gb151)) (okp := (fun k_ => ((P0_1_ k_ ∨ P0_3_ k_) ∨ w.heap.size ≤ k_) ∧ k_ ≠ gb151)) ?hr ?hp (fun _ hk => hk) ((show ∀ k_, w5.heap.size ≤ k_ → (fun k_ => ((P0_1_ k_ ∨ P0_3_ k_) ∨ w.heap.size ≤ k_) ∧ k_ ≠ gb151) k_ from fun k_ hk => ⟨(.inr (Nat.le_trans (below_size (bl1_ HB.out GE151.out)) hk)), Kd.freshB (g := gb151) (o := .cells #[.string a0_0, .slice A0_1 l0_1.length c0_1, .bool a0_2, .slice A0_3 l0_3.length c0_3, .int .i64 a0_4] 25 (0, 0)) (bk_ BK151.out) k_ hk⟩) _ (Nat.le_refl _)) (Below.refl _ _) (Nat.le_refl _) (by simp) ?_; (case hd => rfl); (case hg => rfl); (case hr => first | (go_simp; done) | (go_simp; rfl)); (case hp => exact (Reps.c5 (show Kd.FK k41 _ _ (⟨a0_0, l0_1, a0_2, l0_3, a0_4⟩ : S41) [.string a0_0, .slice A0_1 l0_1.length c0_1, .bool a0_2, .slice A0_3 l0_3.length c0_3, .int .i64 a0_4] from (k41_mkF _ _ (⟨a0_0, l0_1, a0_2, l0_3, a0_4⟩ : S41) (Kd.V_reads' (Kd.V_mono (ok' := (fun k_ => ((P0_1_ k_ ∨ P0_3_ k_) ∨ w.heap.size ≤ k_) ∧ k_ ≠ gb151)) (HO0_1.out) (fun k_ hk => ⟨hk.1, hk.2⟩))).2.1 (Kd.V_F (Kd.V_mono (ok' := (fun k_ => ((P0_1_ k_ ∨ P0_3_ k_) ∨ w.heap.size ≤ k_) ∧ k_ ≠ gb151)) (HO0_1.out) (fun k_ hk => ⟨hk.1, hk.2⟩))) (Kd.V_reads' (Kd.V_mono (ok' := (fun k_ => ((P0_1_ k_ ∨ P0_3_ k_) ∨ w.heap.size ≤ k_) ∧ k_ ≠ gb151)) (HO0_3.out) (fun k_ hk => ⟨hk.1, hk.2⟩))).2.1 (Kd.V_F (Kd.V_mono (ok' := (fun k_ => ((P0_1_ k_ ∨ P0_3_ k_) ∨ w.heap.size ≤ k_) ∧ k_ ≠ gb151)) (HO0_3.out) (fun k_ hk => ⟨hk.1, hk.2⟩))))) (Reps.none _ _))); intro v153 w7 ho8 hb hg_ hnew_; clear hg_ hnew_; (first | rw [← Ny152.out] at ho8 | (simp only [Int.reduceToNat] at ho8; rw [← Ny152.out] at ho8)); refine cut5_ (Kd.V_elder' (rV_ HO0_1.out) (Kd.N_base ho8) hb) (Kd.V_elder' (rV_ HO0_3.out) (Kd.N_base ho8) hb) (Kd.N_lower ho8 (below_size (bl1_ HB.out GE151.out))) (bb_ BK151.out hb) (below_step (bl1_ HB.out GE151.out) hb) ?_; clear HO0_1 HO0_3 BK151 HB; intro HO0_1 HO0_3 HO154 BK151 HB; clear hb ho8; obtain ⟨Ao9, co9, eo9⟩ := Kd.N_slice HO154.out; subst eo9) | ((with_reducible refine gate_callee (f := 22) rfl ?_); refine gk_ (some 7) Tryz.func22 (parser_Check.calls k _ _ y152 t155 _ ?side1 ?side2 A2.out) ?_; (case side1 => repeat (first | exact (Kd.N_reads' HO154.out).2.2 | (with_reducible refine Kd.C_alloc ?_ _) | (with_reducible refine Kd.C_drewN ?_ _) | (with_reducible refine Kd.C_drew ?_))); (case side2 => exact (Kd.N_reads' HO154.out).2.1); rintro e w10 ⟨rfl, hb⟩; refine ⟨_, rfl, ?_⟩; refine cut5_ (Kd.V_below (rV_ HO0_1.out) hb) (Kd.V_below (rV_ HO0_3.out) hb) (Kd.N_below (rN_ HO154.out) hb) (bb_ BK151.out hb) (below_step (bl1_ HB.out GE151.out) hb) ?_; clear hb HO0_1 HO0_3 HO154 BK151 HB; intro HO0_1 HO0_3 HO154 BK151 HB; obtain ⟨hcz11_0, hcz11_1, hcz11_2, hcz11_3, hcz11_4, hfz11_0, hfz11_1, hfz11_2, hfz11_3, hfz11_4⟩ := cq5_ BK151.out) | ((with_reducible refine gate_callee (f := 23) rfl ?_); refine gk_ (some 12) Tryz.func23 (printer_first.calls k a0_0 _ _ l0_1 a0_2 _ _ l0_3 a0_4 t156 _ ?side1 ?side2 ?side3 ?side4 ?side5 A4.out) ?_; (case side1 => exact Gl.below hG (bl1_ HB.out GE151.out)); (case side2 => repeat (first | exact (Kd.V_reads' HO0_1.out).2.2 | (with_reducible refine Kd.C_alloc ?_ _) | (with_reducible refine Kd.C_drewN ?_ _) | (with_reducible refine Kd.C_drew ?_))); (case side3 => exact (Kd.V_reads' HO0_1.out).2.1); (case side4 => repeat (first | exact (Kd.V_reads' HO0_3.out).2.2 | (with_reducible refine Kd.C_alloc ?_ _) | (with_reducible refine Kd.C_drewN ?_ _) | (with_reducible refine Kd.C_drew ?_))); (case side5 => exact (Kd.V_reads' HO0_3.out).2.1); rintro e w12 ⟨rfl, hb⟩; refine ⟨_, rfl, ?_⟩; refine cut5_ (Kd.V_below (rV_ HO0_1.out) hb) (Kd.V_below (rV_ HO0_3.out) hb) (Kd.N_below (rN_ HO154.out) hb) (bb_ BK151.out hb) (below_step (bl1_ HB.out GE151.out) hb) ?_; clear hb HO0_1 HO0_3 HO154 BK151 HB; intro HO0_1 HO0_3 HO154 BK151 HB))
 go_ret2
 exact ⟨er_, bl1_ HB.out GE151.out⟩
def salchowlaw11_PrinterLine.f (k : Nat) (a0_0 : ByteArray) (l0_1 : List (S46)) (a0_2 : Bool) (l0_3 : List (S41)) (a0_4 : Int) : Option (Bool) := (salchowlaw11_awake.f k).bind fun t218 => (if t218 = true then ((some (([(⟨a0_0, l0_1, a0_2, l0_3, a0_4⟩ : S41)] : List (S41)) : List (S41))).bind fun y219 => ((salchowref10_Small.f k y219 300).bind fun t222 => (if t222 = true then ((printer_Line.f k a0_0 l0_1 a0_2 l0_3 a0_4).bind fun bt223 => ((salchowref10_Check.f k y219).bind fun t225 => (if t225 = 0 then (if bt223.2 = 0 then ((salchowref11_Line.f k a0_0 l0_1 a0_2 l0_3 a0_4).bind fun t226 => (some (bt223.1.toList == t226.toList))) else (none)) else (if bt223.2 = t225 then (some (bt223.1.toList == ([] : List UInt8))) else (none))))) else (some true)))) else (none))
theorem salchowlaw11_PrinterLine.mono : ∀ a0 a1 a2 a3 a4 k, LeO (salchowlaw11_PrinterLine.f k a0 a1 a2 a3 a4) (salchowlaw11_PrinterLine.f (k + 1) a0 a1 a2 a3 a4) := by
 intro a0 a1 a2 a3 a4 k
 unfold salchowlaw11_PrinterLine.f
 repeat' first
   | (with_reducible exact LeO.refl _)
   | exact printer_Line.mono _ _ _ _ _ _
   | exact salchowlaw11_awake.mono _
   | exact salchowref10_Check.mono _ _
   | exact salchowref10_Small.mono _ _ _
   | exact salchowref11_Line.mono _ _ _ _ _ _
   | exact LeO.none _
   | refine LeO.ite ?_ ?_
   | refine LeO.bind ?_ (fun _ => ?_)
theorem salchowlaw11_PrinterLine.calls (k : Nat) (a0_0 : ByteArray) (P0_1_ : Nat → Prop) (A0_1 : Option Addr) (c0_1 : Nat) (l0_1 : List (S46)) (a0_2 : Bool) (P0_3_ : Nat → Prop) (A0_3 : Option Addr) (c0_3 : Nat) (l0_3 : List (S41)) (a0_4 : Int) (r : Bool) (w : World) (hG : Gl w) (hs0_1 : Kd.V k46 50 w w.heap.size (fun k_ => P0_1_ k_) (.slice A0_1 l0_1.length c0_1) l0_1) (hs0_3 : Kd.V k41 25 w w.heap.size (fun k_ => P0_3_ k_) (.slice A0_3 l0_3.length c0_3) l0_3) (h : salchowlaw11_PrinterLine.f k a0_0 l0_1 a0_2 l0_3 a0_4 = some r) :
  Calls Tryz.prog 3 #[.agg #[.string a0_0, .slice A0_1 l0_1.length c0_1, .bool a0_2, .slice A0_3 l0_3.length c0_3, .int .i64 a0_4]] w fun e w' => e = .returned (.bool r) ∧ Below w.heap.size w w' := by
 have hu25 := Tryz.underlying25; have HO0_1 := Aside0.mk (show Kd.V k46 50 w w.heap.size (fun k_ => ((P0_1_ k_ ∨ P0_3_ k_) ∨ w.heap.size ≤ k_)) (.slice A0_1 l0_1.length c0_1) l0_1 from Kd.V_mono hs0_1 (fun k_ hk => .inl (.inl hk))); have HO0_3 := Aside0.mk (show Kd.V k41 25 w w.heap.size (fun k_ => ((P0_1_ k_ ∨ P0_3_ k_) ∨ w.heap.size ≤ k_)) (.slice A0_3 l0_3.length c0_3) l0_3 from Kd.V_mono hs0_3 (fun k_ hk => .inl (.inr hk))); have HB := Aside0.mk (Below.refl w.heap.size w); have H : ((salchowlaw11_awake.f k).bind fun t218 => (if t218 = true then ((some (([(⟨a0_0, l0_1, a0_2, l0_3, a0_4⟩ : S41)] : List (S41)) : List (S41))).bind fun y219 => ((salchowref10_Small.f k y219 300).bind fun t222 => (if t222 = true then ((printer_Line.f k a0_0 l0_1 a0_2 l0_3 a0_4).bind fun bt223 => ((salchowref10_Check.f k y219).bind fun t225 => (if t225 = 0 then (if bt223.2 = 0 then ((salchowref11_Line.f k a0_0 l0_1 a0_2 l0_3 a0_4).bind fun t226 => (some (bt223.1.toList == t226.toList))) else (none)) else (if bt223.2 = t225 then (some (bt223.1.toList == ([] : List UInt8))) else (none))))) else (some true)))) else (none))) = some r := h; clear h; replace H := bn_ H; obtain ⟨t218, A2, H⟩ := H; (try dsimp only at H); replace H := gb_ H; obtain ⟨rfl, H⟩ := H; obtain ⟨y219, hy219⟩ : ∃ y_ : List (S41), y_ = (([(⟨a0_0, l0_1, a0_2, l0_3, a0_4⟩ : S41)] : List (S41))) := ⟨_, rfl⟩; replace H : ((salchowref10_Small.f k y219 300).bind fun t222 => (if t222 = true then ((printer_Line.f k a0_0 l0_1 a0_2 l0_3 a0_4).bind fun bt223 => ((salchowref10_Check.f k y219).bind fun t225 => (if t225 = 0 then (if bt223.2 = 0 then ((salchowref11_Line.f k a0_0 l0_1 a0_2 l0_3 a0_4).bind fun t226 => (some (bt223.1.toList == t226.toList))) else (none)) else (if bt223.2 = t225 then (some (bt223.1.toList == ([] : List UInt8))) else (none))))) else (some true))) = some r := by first | (rw [hy219]; with_reducible exact H) | (have H2_ := (Option.bind_some _ _).symm.trans H; rw [hy219]; with_reducible exact H2_) | (have H2_ := (Option.bind_some _ _).symm.trans H; with_reducible exact H2_) | with_reducible exact H | (rw [hy219]; exact H) | exact H
 have Ny219 := Aside0.mk hy219; clear hy219; replace H := bn_ H; obtain ⟨t222, A4, H⟩ := H; (try dsimp only at H); replace H := (sb_ H).symm; obtain ⟨rfl, H⟩ | ⟨rfl, H⟩ := H
 ·
  obtain rfl := Option.some.inj H
  go_enter Tryz.func3, Tryz.ntmps3
  go_wp2_with (first | ((with_reducible refine gate_dst (N := 1) rfl ?_); refine bx_ (N := 1) (cs := #[.string a0_0, .slice A0_1 l0_1.length c0_1, .bool a0_2, .slice A0_3 l0_3.length c0_3, .int .i64 a0_4]) (t := 25) ?_; intro gb217 hg w32 hbox hb; refine cut6_ (Kd.V_below (Kd.V_elderB (rV_ HO0_1.out) gb217 (Nat.le_of_eq hg.symm)) hb) (Kd.V_below (Kd.V_elderB (rV_ HO0_3.out) gb217 (Nat.le_of_eq hg.symm)) hb) (below_step (bl_ HB.out) hb) (hbox) (bz_ (w := w) hg (bl_ HB.out)) (bz_ (w := w) hg (bl_ HB.out)) ?_; clear HO0_1 HO0_3 HB; intro HO0_1 HO0_3 HB BK217 GW217 GE217; clear hb hbox hg) | ((with_reducible refine gate_callee (f := 6) rfl ?_); refine gk_ (some 7) Tryz.func6 (salchowlaw11_awake.calls k  true _ ?side1 A2.out) ?_; (case side1 => exact Gl.below hG (bl1_ HB.out GE217.out)); rintro e w33 ⟨rfl, hb⟩; refine ⟨_, rfl, ?_⟩; refine cut4_ (Kd.V_below (rV_ HO0_1.out) hb) (Kd.V_below (rV_ HO0_3.out) hb) (bb_ BK217.out hb) (below_step (bl1_ HB.out GE217.out) hb) ?_; clear hb HO0_1 HO0_3 BK217 HB; intro HO0_1 HO0_3 BK217 HB; obtain ⟨hcz34_0, hcz34_1, hcz34_2, hcz34_3, hcz34_4, hfz34_0, hfz34_1, hfz34_2, hfz34_3, hfz34_4⟩ := cq5_ BK217.out) | ((with_reducible refine gate_dst (N := 10) rfl ?_); refine Kd.N_lit k41 _ 25 ?hg (N' := 10) ?hd (xs := ([(⟨a0_0, l0_1, a0_2, l0_3, a0_4⟩ : S41)] : List (S41))) (inner := [.string a0_0, .slice A0_1 l0_1.length c0_1, .bool a0_2, .slice A0_3 l0_3.length c0_3, .int .i64 a0_4]) (ok := (fun k_ => ((P0_1_ k_ ∨ P0_3_ k_) ∨ w.heap.size ≤ k_) ∧ k_ ≠ gb217)) (okp := (fun k_ => ((P0_1_ k_ ∨ P0_3_ k_) ∨ w.heap.size ≤ k_) ∧ k_ ≠ gb217)) ?hr ?hp (fun _ hk => hk) ((show ∀ k_, w33.heap.size ≤ k_ → (fun k_ => ((P0_1_ k_ ∨ P0_3_ k_) ∨ w.heap.size ≤ k_) ∧ k_ ≠ gb217) k_ from fun k_ hk => ⟨(.inr (Nat.le_trans (below_size (bl1_ HB.out GE217.out)) hk)), Kd.freshB (g := gb217) (o := .cells #[.string a0_0, .slice A0_1 l0_1.length c0_1, .bool a0_2, .slice A0_3 l0_3.length c0_3, .int .i64 a0_4] 25 (0, 0)) (bk_ BK217.out) k_ hk⟩) _ (Nat.le_refl _)) (Below.refl _ _) (Nat.le_refl _) (by simp) ?_; (case hd => rfl); (case hg => rfl); (case hr => first | (go_simp; done) | (go_simp; rfl)); (case hp => exact (Reps.c5 (show Kd.FK k41 _ _ (⟨a0_0, l0_1, a0_2, l0_3, a0_4⟩ : S41) [.string a0_0, .slice A0_1 l0_1.length c0_1, .bool a0_2, .slice A0_3 l0_3.length c0_3, .int .i64 a0_4] from (k41_mkF _ _ (⟨a0_0, l0_1, a0_2, l0_3, a0_4⟩ : S41) (Kd.V_reads' (Kd.V_mono (ok' := (fun k_ => ((P0_1_ k_ ∨ P0_3_ k_) ∨ w.heap.size ≤ k_) ∧ k_ ≠ gb217)) (HO0_1.out) (fun k_ hk => ⟨hk.1, hk.2⟩))).2.1 (Kd.V_F (Kd.V_mono (ok' := (fun k_ => ((P0_1_ k_ ∨ P0_3_ k_) ∨ w.heap.size ≤ k_) ∧ k_ ≠ gb217)) (HO0_1.out) (fun k_ hk => ⟨hk.1, hk.2⟩))) (Kd.V_reads' (Kd.V_mono (ok' := (fun k_ => ((P0_1_ k_ ∨ P0_3_ k_) ∨ w.heap.size ≤ k_) ∧ k_ ≠ gb217)) (HO0_3.out) (fun k_ hk => ⟨hk.1, hk.2⟩))).2.1 (Kd.V_F (Kd.V_mono (ok' := (fun k_ => ((P0_1_ k_ ∨ P0_3_ k_) ∨ w.heap.size ≤ k_) ∧ k_ ≠ gb217)) (HO0_3.out) (fun k_ hk => ⟨hk.1, hk.2⟩))))) (Reps.none _ _))); intro v220 w35 ho36 hb hg_ hnew_; clear hg_ hnew_; (first | rw [← Ny219.out] at ho36 | (simp only [Int.reduceToNat] at ho36; rw [← Ny219.out] at ho36)); refine cut5_ (Kd.V_elder' (rV_ HO0_1.out) (Kd.N_base ho36) hb) (Kd.V_elder' (rV_ HO0_3.out) (Kd.N_base ho36) hb) (Kd.N_lower ho36 (below_size (bl1_ HB.out GE217.out))) (bb_ BK217.out hb) (below_step (bl1_ HB.out GE217.out) hb) ?_; clear HO0_1 HO0_3 BK217 HB; intro HO0_1 HO0_3 HO221 BK217 HB; clear hb ho36; obtain ⟨Ao37, co37, eo37⟩ := Kd.N_slice HO221.out; subst eo37) | ((with_reducible refine gate_callee (f := 7) rfl ?_); refine gk_ (some 12) Tryz.func7 (salchowref10_Small.calls k _ _ y219 300 false _ ?side1 ?side2 A4.out) ?_; (case side1 => repeat (first | exact (Kd.N_reads' HO221.out).2.2 | (with_reducible refine Kd.C_alloc ?_ _) | (with_reducible refine Kd.C_drewN ?_ _) | (with_reducible refine Kd.C_drew ?_))); (case side2 => exact (Kd.N_reads' HO221.out).2.1); rintro e w' ⟨rfl, ⟨nd, rfl⟩⟩; refine ⟨_, rfl, ?_⟩))
  go_ret
  exact ⟨er_, bl1_ HB.out GE217.out⟩
 replace H := bn_ H; obtain ⟨⟨t223, t224⟩, A6, H⟩ := H; (try dsimp only at H); replace H := bn_ H; obtain ⟨t225, A7, H⟩ := H; (try dsimp only at H); replace H := (sp_ H).symm; obtain ⟨c8, H⟩ | ⟨c8, H⟩ := H
 ·
  have c8b0 := beq_eq_false_iff_ne.mpr c8; have c8b1 := bne_iff_ne.mpr c8; replace H := ge_ H; obtain ⟨c22b0, c22b1, H⟩ := H; obtain rfl := Option.some.inj H
  go_enter Tryz.func3, Tryz.ntmps3
  go_wp2_with (first | ((with_reducible refine gate_dst (N := 1) rfl ?_); refine bx_ (N := 1) (cs := #[.string a0_0, .slice A0_1 l0_1.length c0_1, .bool a0_2, .slice A0_3 l0_3.length c0_3, .int .i64 a0_4]) (t := 25) ?_; intro gb217 hg w23 hbox hb; refine cut6_ (Kd.V_below (Kd.V_elderB (rV_ HO0_1.out) gb217 (Nat.le_of_eq hg.symm)) hb) (Kd.V_below (Kd.V_elderB (rV_ HO0_3.out) gb217 (Nat.le_of_eq hg.symm)) hb) (below_step (bl_ HB.out) hb) (hbox) (bz_ (w := w) hg (bl_ HB.out)) (bz_ (w := w) hg (bl_ HB.out)) ?_; clear HO0_1 HO0_3 HB; intro HO0_1 HO0_3 HB BK217 GW217 GE217; clear hb hbox hg) | ((with_reducible refine gate_callee (f := 6) rfl ?_); refine gk_ (some 7) Tryz.func6 (salchowlaw11_awake.calls k  true _ ?side1 A2.out) ?_; (case side1 => exact Gl.below hG (bl1_ HB.out GE217.out)); rintro e w24 ⟨rfl, hb⟩; refine ⟨_, rfl, ?_⟩; refine cut4_ (Kd.V_below (rV_ HO0_1.out) hb) (Kd.V_below (rV_ HO0_3.out) hb) (bb_ BK217.out hb) (below_step (bl1_ HB.out GE217.out) hb) ?_; clear hb HO0_1 HO0_3 BK217 HB; intro HO0_1 HO0_3 BK217 HB; obtain ⟨hcz25_0, hcz25_1, hcz25_2, hcz25_3, hcz25_4, hfz25_0, hfz25_1, hfz25_2, hfz25_3, hfz25_4⟩ := cq5_ BK217.out) | ((with_reducible refine gate_dst (N := 10) rfl ?_); refine Kd.N_lit k41 _ 25 ?hg (N' := 10) ?hd (xs := ([(⟨a0_0, l0_1, a0_2, l0_3, a0_4⟩ : S41)] : List (S41))) (inner := [.string a0_0, .slice A0_1 l0_1.length c0_1, .bool a0_2, .slice A0_3 l0_3.length c0_3, .int .i64 a0_4]) (ok := (fun k_ => ((P0_1_ k_ ∨ P0_3_ k_) ∨ w.heap.size ≤ k_) ∧ k_ ≠ gb217)) (okp := (fun k_ => ((P0_1_ k_ ∨ P0_3_ k_) ∨ w.heap.size ≤ k_) ∧ k_ ≠ gb217)) ?hr ?hp (fun _ hk => hk) ((show ∀ k_, w24.heap.size ≤ k_ → (fun k_ => ((P0_1_ k_ ∨ P0_3_ k_) ∨ w.heap.size ≤ k_) ∧ k_ ≠ gb217) k_ from fun k_ hk => ⟨(.inr (Nat.le_trans (below_size (bl1_ HB.out GE217.out)) hk)), Kd.freshB (g := gb217) (o := .cells #[.string a0_0, .slice A0_1 l0_1.length c0_1, .bool a0_2, .slice A0_3 l0_3.length c0_3, .int .i64 a0_4] 25 (0, 0)) (bk_ BK217.out) k_ hk⟩) _ (Nat.le_refl _)) (Below.refl _ _) (Nat.le_refl _) (by simp) ?_; (case hd => rfl); (case hg => rfl); (case hr => first | (go_simp; done) | (go_simp; rfl)); (case hp => exact (Reps.c5 (show Kd.FK k41 _ _ (⟨a0_0, l0_1, a0_2, l0_3, a0_4⟩ : S41) [.string a0_0, .slice A0_1 l0_1.length c0_1, .bool a0_2, .slice A0_3 l0_3.length c0_3, .int .i64 a0_4] from (k41_mkF _ _ (⟨a0_0, l0_1, a0_2, l0_3, a0_4⟩ : S41) (Kd.V_reads' (Kd.V_mono (ok' := (fun k_ => ((P0_1_ k_ ∨ P0_3_ k_) ∨ w.heap.size ≤ k_) ∧ k_ ≠ gb217)) (HO0_1.out) (fun k_ hk => ⟨hk.1, hk.2⟩))).2.1 (Kd.V_F (Kd.V_mono (ok' := (fun k_ => ((P0_1_ k_ ∨ P0_3_ k_) ∨ w.heap.size ≤ k_) ∧ k_ ≠ gb217)) (HO0_1.out) (fun k_ hk => ⟨hk.1, hk.2⟩))) (Kd.V_reads' (Kd.V_mono (ok' := (fun k_ => ((P0_1_ k_ ∨ P0_3_ k_) ∨ w.heap.size ≤ k_) ∧ k_ ≠ gb217)) (HO0_3.out) (fun k_ hk => ⟨hk.1, hk.2⟩))).2.1 (Kd.V_F (Kd.V_mono (ok' := (fun k_ => ((P0_1_ k_ ∨ P0_3_ k_) ∨ w.heap.size ≤ k_) ∧ k_ ≠ gb217)) (HO0_3.out) (fun k_ hk => ⟨hk.1, hk.2⟩))))) (Reps.none _ _))); intro v220 w26 ho27 hb hg_ hnew_; clear hg_ hnew_; (first | rw [← Ny219.out] at ho27 | (simp only [Int.reduceToNat] at ho27; rw [← Ny219.out] at ho27)); refine cut5_ (Kd.V_elder' (rV_ HO0_1.out) (Kd.N_base ho27) hb) (Kd.V_elder' (rV_ HO0_3.out) (Kd.N_base ho27) hb) (Kd.N_lower ho27 (below_size (bl1_ HB.out GE217.out))) (bb_ BK217.out hb) (below_step (bl1_ HB.out GE217.out) hb) ?_; clear HO0_1 HO0_3 BK217 HB; intro HO0_1 HO0_3 HO221 BK217 HB; clear hb ho27; obtain ⟨Ao28, co28, eo28⟩ := Kd.N_slice HO221.out; subst eo28) | ((with_reducible refine gate_callee (f := 7) rfl ?_); refine gk_ (some 12) Tryz.func7 (salchowref10_Small.calls k _ _ y219 300 true _ ?side1 ?side2 A4.out) ?_; (case side1 => repeat (first | exact (Kd.N_reads' HO221.out).2.2 | (with_reducible refine Kd.C_alloc ?_ _) | (with_reducible refine Kd.C_drewN ?_ _) | (with_reducible refine Kd.C_drew ?_))); (case side2 => exact (Kd.N_reads' HO221.out).2.1); rintro e w' ⟨rfl, ⟨nd, rfl⟩⟩; refine ⟨_, rfl, ?_⟩; obtain ⟨hcz29_0, hcz29_1, hcz29_2, hcz29_3, hcz29_4, hfz29_0, hfz29_1, hfz29_2, hfz29_3, hfz29_4⟩ := cq5_ BK217.out) | ((with_reducible refine gate_callee (f := 8) rfl ?_); refine goesL_ (some 16) rfl rfl Tryz.func8 (by kernel_rfl) rfl #[.agg #[.string a0_0, .slice A0_1 l0_1.length c0_1, .bool a0_2, .slice A0_3 l0_3.length c0_3, .int .i64 a0_4]] rfl ga_ ?_; (with_reducible refine (printer_Line.calls k a0_0 (fun k_ => ((((P0_1_ k_ ∨ P0_3_ k_) ∨ w.heap.size ≤ k_) ∧ k_ ≠ gb217) ∧ some k_ ≠ (.slice Ao28 y219.length co28 : Value).ownBlock)) _ _ l0_1 a0_2 (fun k_ => ((((P0_1_ k_ ∨ P0_3_ k_) ∨ w.heap.size ≤ k_) ∧ k_ ≠ gb217) ∧ some k_ ≠ (.slice Ao28 y219.length co28 : Value).ownBlock)) _ _ l0_3 a0_4 t223 t224 _ ?side1 ?side2 ?side3 A6.out).mono ?_); (case side1 => exact Gl.below hG (bl1_ HB.out GE217.out)); (case side2 => exact HO0_1.out); (case side3 => exact HO0_3.out); rintro e w30 ⟨rfl, hb⟩; refine ⟨_, rfl, ?_⟩; refine cut5_ (Kd.V_below (rV_ HO0_1.out) hb) (Kd.V_below (rV_ HO0_3.out) hb) (Kd.N_below (rN_ HO221.out) hb) (bb_ BK217.out hb) (below_step (bl1_ HB.out GE217.out) hb) ?_; clear hb HO0_1 HO0_3 HO221 BK217 HB; intro HO0_1 HO0_3 HO221 BK217 HB) | ((with_reducible refine gate_callee (f := 9) rfl ?_); refine gk_ (some 20) Tryz.func9 (salchowref10_Check.calls k _ _ y219 t225 _ ?side1 ?side2 ?side3 A7.out) ?_; (case side1 => exact Gl.below hG (bl1_ HB.out GE217.out)); (case side2 => repeat (first | exact (Kd.N_reads' HO221.out).2.2 | (with_reducible refine Kd.C_alloc ?_ _) | (with_reducible refine Kd.C_drewN ?_ _) | (with_reducible refine Kd.C_drew ?_))); (case side3 => exact (Kd.N_reads' HO221.out).2.1); rintro e w31 ⟨rfl, hb⟩; refine ⟨_, rfl, ?_⟩; refine cut5_ (Kd.V_below (rV_ HO0_1.out) hb) (Kd.V_below (rV_ HO0_3.out) hb) (Kd.N_below (rN_ HO221.out) hb) (bb_ BK217.out hb) (below_step (bl1_ HB.out GE217.out) hb) ?_; clear hb HO0_1 HO0_3 HO221 BK217 HB; intro HO0_1 HO0_3 HO221 BK217 HB))
  go_ret
  exact ⟨er_, bl1_ HB.out GE217.out⟩
 have c8b0 := beq_iff_eq.mpr c8; have c8b1 := bne_eq_false_iff_eq.mpr c8; clear c8; replace H := ge_ H; obtain ⟨c9b0, c9b1, H⟩ := H; replace H := bn_ H; obtain ⟨t226, A10, H⟩ := H; (try dsimp only at H); obtain rfl := Option.some.inj H
 go_enter Tryz.func3, Tryz.ntmps3
 go_wp2_with (first | ((with_reducible refine gate_dst (N := 1) rfl ?_); refine bx_ (N := 1) (cs := #[.string a0_0, .slice A0_1 l0_1.length c0_1, .bool a0_2, .slice A0_3 l0_3.length c0_3, .int .i64 a0_4]) (t := 25) ?_; intro gb217 hg w11 hbox hb; refine cut6_ (Kd.V_below (Kd.V_elderB (rV_ HO0_1.out) gb217 (Nat.le_of_eq hg.symm)) hb) (Kd.V_below (Kd.V_elderB (rV_ HO0_3.out) gb217 (Nat.le_of_eq hg.symm)) hb) (below_step (bl_ HB.out) hb) (hbox) (bz_ (w := w) hg (bl_ HB.out)) (bz_ (w := w) hg (bl_ HB.out)) ?_; clear HO0_1 HO0_3 HB; intro HO0_1 HO0_3 HB BK217 GW217 GE217; clear hb hbox hg) | ((with_reducible refine gate_callee (f := 6) rfl ?_); refine gk_ (some 7) Tryz.func6 (salchowlaw11_awake.calls k  true _ ?side1 A2.out) ?_; (case side1 => exact Gl.below hG (bl1_ HB.out GE217.out)); rintro e w12 ⟨rfl, hb⟩; refine ⟨_, rfl, ?_⟩; refine cut4_ (Kd.V_below (rV_ HO0_1.out) hb) (Kd.V_below (rV_ HO0_3.out) hb) (bb_ BK217.out hb) (below_step (bl1_ HB.out GE217.out) hb) ?_; clear hb HO0_1 HO0_3 BK217 HB; intro HO0_1 HO0_3 BK217 HB; obtain ⟨hcz13_0, hcz13_1, hcz13_2, hcz13_3, hcz13_4, hfz13_0, hfz13_1, hfz13_2, hfz13_3, hfz13_4⟩ := cq5_ BK217.out) | ((with_reducible refine gate_dst (N := 10) rfl ?_); refine Kd.N_lit k41 _ 25 ?hg (N' := 10) ?hd (xs := ([(⟨a0_0, l0_1, a0_2, l0_3, a0_4⟩ : S41)] : List (S41))) (inner := [.string a0_0, .slice A0_1 l0_1.length c0_1, .bool a0_2, .slice A0_3 l0_3.length c0_3, .int .i64 a0_4]) (ok := (fun k_ => ((P0_1_ k_ ∨ P0_3_ k_) ∨ w.heap.size ≤ k_) ∧ k_ ≠ gb217)) (okp := (fun k_ => ((P0_1_ k_ ∨ P0_3_ k_) ∨ w.heap.size ≤ k_) ∧ k_ ≠ gb217)) ?hr ?hp (fun _ hk => hk) ((show ∀ k_, w12.heap.size ≤ k_ → (fun k_ => ((P0_1_ k_ ∨ P0_3_ k_) ∨ w.heap.size ≤ k_) ∧ k_ ≠ gb217) k_ from fun k_ hk => ⟨(.inr (Nat.le_trans (below_size (bl1_ HB.out GE217.out)) hk)), Kd.freshB (g := gb217) (o := .cells #[.string a0_0, .slice A0_1 l0_1.length c0_1, .bool a0_2, .slice A0_3 l0_3.length c0_3, .int .i64 a0_4] 25 (0, 0)) (bk_ BK217.out) k_ hk⟩) _ (Nat.le_refl _)) (Below.refl _ _) (Nat.le_refl _) (by simp) ?_; (case hd => rfl); (case hg => rfl); (case hr => first | (go_simp; done) | (go_simp; rfl)); (case hp => exact (Reps.c5 (show Kd.FK k41 _ _ (⟨a0_0, l0_1, a0_2, l0_3, a0_4⟩ : S41) [.string a0_0, .slice A0_1 l0_1.length c0_1, .bool a0_2, .slice A0_3 l0_3.length c0_3, .int .i64 a0_4] from (k41_mkF _ _ (⟨a0_0, l0_1, a0_2, l0_3, a0_4⟩ : S41) (Kd.V_reads' (Kd.V_mono (ok' := (fun k_ => ((P0_1_ k_ ∨ P0_3_ k_) ∨ w.heap.size ≤ k_) ∧ k_ ≠ gb217)) (HO0_1.out) (fun k_ hk => ⟨hk.1, hk.2⟩))).2.1 (Kd.V_F (Kd.V_mono (ok' := (fun k_ => ((P0_1_ k_ ∨ P0_3_ k_) ∨ w.heap.size ≤ k_) ∧ k_ ≠ gb217)) (HO0_1.out) (fun k_ hk => ⟨hk.1, hk.2⟩))) (Kd.V_reads' (Kd.V_mono (ok' := (fun k_ => ((P0_1_ k_ ∨ P0_3_ k_) ∨ w.heap.size ≤ k_) ∧ k_ ≠ gb217)) (HO0_3.out) (fun k_ hk => ⟨hk.1, hk.2⟩))).2.1 (Kd.V_F (Kd.V_mono (ok' := (fun k_ => ((P0_1_ k_ ∨ P0_3_ k_) ∨ w.heap.size ≤ k_) ∧ k_ ≠ gb217)) (HO0_3.out) (fun k_ hk => ⟨hk.1, hk.2⟩))))) (Reps.none _ _))); intro v220 w14 ho15 hb hg_ hnew_; clear hg_ hnew_; (first | rw [← Ny219.out] at ho15 | (simp only [Int.reduceToNat] at ho15; rw [← Ny219.out] at ho15)); refine cut5_ (Kd.V_elder' (rV_ HO0_1.out) (Kd.N_base ho15) hb) (Kd.V_elder' (rV_ HO0_3.out) (Kd.N_base ho15) hb) (Kd.N_lower ho15 (below_size (bl1_ HB.out GE217.out))) (bb_ BK217.out hb) (below_step (bl1_ HB.out GE217.out) hb) ?_; clear HO0_1 HO0_3 BK217 HB; intro HO0_1 HO0_3 HO221 BK217 HB; clear hb ho15; obtain ⟨Ao16, co16, eo16⟩ := Kd.N_slice HO221.out; subst eo16) | ((with_reducible refine gate_callee (f := 7) rfl ?_); refine gk_ (some 12) Tryz.func7 (salchowref10_Small.calls k _ _ y219 300 true _ ?side1 ?side2 A4.out) ?_; (case side1 => repeat (first | exact (Kd.N_reads' HO221.out).2.2 | (with_reducible refine Kd.C_alloc ?_ _) | (with_reducible refine Kd.C_drewN ?_ _) | (with_reducible refine Kd.C_drew ?_))); (case side2 => exact (Kd.N_reads' HO221.out).2.1); rintro e w' ⟨rfl, ⟨nd, rfl⟩⟩; refine ⟨_, rfl, ?_⟩; obtain ⟨hcz17_0, hcz17_1, hcz17_2, hcz17_3, hcz17_4, hfz17_0, hfz17_1, hfz17_2, hfz17_3, hfz17_4⟩ := cq5_ BK217.out) | ((with_reducible refine gate_callee (f := 8) rfl ?_); refine goesL_ (some 16) rfl rfl Tryz.func8 (by kernel_rfl) rfl #[.agg #[.string a0_0, .slice A0_1 l0_1.length c0_1, .bool a0_2, .slice A0_3 l0_3.length c0_3, .int .i64 a0_4]] rfl ga_ ?_; (with_reducible refine (printer_Line.calls k a0_0 (fun k_ => ((((P0_1_ k_ ∨ P0_3_ k_) ∨ w.heap.size ≤ k_) ∧ k_ ≠ gb217) ∧ some k_ ≠ (.slice Ao16 y219.length co16 : Value).ownBlock)) _ _ l0_1 a0_2 (fun k_ => ((((P0_1_ k_ ∨ P0_3_ k_) ∨ w.heap.size ≤ k_) ∧ k_ ≠ gb217) ∧ some k_ ≠ (.slice Ao16 y219.length co16 : Value).ownBlock)) _ _ l0_3 a0_4 t223 t224 _ ?side1 ?side2 ?side3 A6.out).mono ?_); (case side1 => exact Gl.below hG (bl1_ HB.out GE217.out)); (case side2 => exact HO0_1.out); (case side3 => exact HO0_3.out); rintro e w18 ⟨rfl, hb⟩; refine ⟨_, rfl, ?_⟩; refine cut5_ (Kd.V_below (rV_ HO0_1.out) hb) (Kd.V_below (rV_ HO0_3.out) hb) (Kd.N_below (rN_ HO221.out) hb) (bb_ BK217.out hb) (below_step (bl1_ HB.out GE217.out) hb) ?_; clear hb HO0_1 HO0_3 HO221 BK217 HB; intro HO0_1 HO0_3 HO221 BK217 HB) | ((with_reducible refine gate_callee (f := 9) rfl ?_); refine gk_ (some 20) Tryz.func9 (salchowref10_Check.calls k _ _ y219 t225 _ ?side1 ?side2 ?side3 A7.out) ?_; (case side1 => exact Gl.below hG (bl1_ HB.out GE217.out)); (case side2 => repeat (first | exact (Kd.N_reads' HO221.out).2.2 | (with_reducible refine Kd.C_alloc ?_ _) | (with_reducible refine Kd.C_drewN ?_ _) | (with_reducible refine Kd.C_drew ?_))); (case side3 => exact (Kd.N_reads' HO221.out).2.1); rintro e w19 ⟨rfl, hb⟩; refine ⟨_, rfl, ?_⟩; refine cut5_ (Kd.V_below (rV_ HO0_1.out) hb) (Kd.V_below (rV_ HO0_3.out) hb) (Kd.N_below (rN_ HO221.out) hb) (bb_ BK217.out hb) (below_step (bl1_ HB.out GE217.out) hb) ?_; clear hb HO0_1 HO0_3 HO221 BK217 HB; intro HO0_1 HO0_3 HO221 BK217 HB; obtain ⟨hcz20_0, hcz20_1, hcz20_2, hcz20_3, hcz20_4, hfz20_0, hfz20_1, hfz20_2, hfz20_3, hfz20_4⟩ := cq5_ BK217.out) | (go_at_call 10; (with_reducible refine (salchowref11_Line.calls k a0_0 _ _ l0_1 a0_2 _ _ l0_3 a0_4 t226 _ ?side1 ?side2 ?side3 ?side4 ?side5 A10.out).mono ?_); (case side1 => exact Gl.below hG (bl1_ HB.out GE217.out)); (case side2 => repeat (first | exact (Kd.V_reads' HO0_1.out).2.2 | (with_reducible refine Kd.C_alloc ?_ _) | (with_reducible refine Kd.C_drewN ?_ _) | (with_reducible refine Kd.C_drew ?_))); (case side3 => exact (Kd.V_reads' HO0_1.out).2.1); (case side4 => repeat (first | exact (Kd.V_reads' HO0_3.out).2.2 | (with_reducible refine Kd.C_alloc ?_ _) | (with_reducible refine Kd.C_drewN ?_ _) | (with_reducible refine Kd.C_drew ?_))); (case side5 => exact (Kd.V_reads' HO0_3.out).2.1); rintro e w21 ⟨rfl, hb⟩; refine cut5_ (Kd.V_below (rV_ HO0_1.out) hb) (Kd.V_below (rV_ HO0_3.out) hb) (Kd.N_below (rN_ HO221.out) hb) (bb_ BK217.out hb) (below_step (bl1_ HB.out GE217.out) hb) ?_; clear HO0_1 HO0_3 HO221 BK217 HB; intro HO0_1 HO0_3 HO221 BK217 HB; (try clear hb); (try clear hb2); (try clear hk); (try clear hi)))
 go_ret
 exact ⟨er_, bl1_ HB.out GE217.out⟩
end Go.Proofs.YtkifdadhojbohaaGreatDoor.Pr
namespace Go.Proofs.YtkifdadhojbohaaGreatDoor.Pu
open Go.RowKit Go.Proofs.YtkifdadhojbohaaGreatDoor Go.Proofs.YtkifdadhojbohaaGreatDoor.Pr Go.Proofs.YtkifdadhojbohaaGreatDoorW.PrintWords Go.Proofs.YtkifdadhojbohaaGreatDoorW.PrintLast Go.Proofs.YtkifdadhojbohaaGreatDoorW.PrintMore
theorem first_le (c : S41) (l : List S41) (n : Nat) : (firstL c).length ≤ (srcL n (c :: l)).length ∧ (lst c.f0 ++ atomsL none c.f1).length ≤ (firstL c).length := by
  rw [srcL]
  refine ⟨?_, ?_⟩
  · simp only [List.length_append, List.length_cons]
    omega
  · unfold firstL
    simp only [List.length_append]
    omega
theorem pFirst_f (c : S41) (hs : szL [c] ≤ 900000) (hP : AllC (txt 900000) [c]) (hf : formL [c] = true) (hd : depL [c] ≤ 8) : Ev (fun k => printer_first.f k c.f0 c.f1 c.f2 c.f3 c.f4) (str (firstL c)) := by
  obtain ⟨K, g⟩ := SpG_f [c] hs hP hf hd
  refine ⟨K, fun k hk => ?_⟩
  obtain ⟨g1, g2, g3⟩ := g k hk
  have hG : FsG k c.f0 c.f1 := by
    cases g3 with
    | cons _ _ h1 _ _ =>
      refine ⟨h1, ?_, ?_⟩
      · rw [szL] at g2; omega
      · obtain ⟨a, b⟩ := first_le c [] 0
        omega
  unfold printer_first.f
  refine (if_pos hG).trans ?_
  unfold firstL
  rw [List.append_assoc]
theorem printerLine (a0 : ByteArray) (l1 : List S46) (b2 : Bool) (l3 : List S41) (a4 : Int) : ∃ k, salchowlaw11_PrinterLine.f k a0 l1 b2 l3 a4 = some true := by
  apply Ev.rounds
  unfold salchowlaw11_PrinterLine.f
  refine Ev.bind awake11_f (Ev.ifp rfl ?_)
  generalize hc0 : (⟨a0, l1, b2, l3, a4⟩ : S41) = c
  have e0 : a0 = c.f0 := by rw [← hc0]
  have e1 : l1 = c.f1 := by rw [← hc0]
  have e2 : b2 = c.f2 := by rw [← hc0]
  have e3 : l3 = c.f3 := by rw [← hc0]
  have e4 : a4 = c.f4 := by rw [← hc0]
  rw [e0, e1, e2, e3, e4]
  refine Ev.val rfl ?_
  obtain ⟨b, g1, g2⟩ := Small_f [c] 300 (by omega)
  refine Ev.bind g1 ?_
  cases b with
  | false => exact Ev.ifn (by simp) (Ev.now _)
  | true =>
    obtain ⟨hsz, hP⟩ := g2 rfl
    have hP' := txt_mono (m := 900000) (by omega) hP
    have hP9 := txt_mono (m := 90000) (by omega) hP
    have hck := Check_f [c] (by omega) hP'
    have hrk := rCheck_f [c] (by omega) hP9
    have hline : Ev (fun k => printer_Line.f k c.f0 c.f1 c.f2 c.f3 c.f4) (if chkL [c] = 0 then (str (firstL c), 0) else ((⟨#[]⟩ : ByteArray), chkL [c])) := by
      unfold printer_Line.f
      rw [show (⟨c.f0, c.f1, c.f2, c.f3, c.f4⟩ : S41) = c by cases c; rfl]
      refine Ev.bind hck ?_
      by_cases hc : chkL [c] = 0
      · obtain ⟨hf, hd⟩ := chk_ok hc
        exact Ev.ifp hc (Ev.cast (if_pos hc).symm (Ev.bind (pFirst_f c (by omega) hP' hf hd) (Ev.now _)))
      · exact Ev.ifn hc (Ev.cast (if_neg hc).symm (Ev.now _))
    refine Ev.ifp rfl (Ev.bind hline (Ev.bind hrk ?_))
    by_cases hc : chkL [c] = 0
    · obtain ⟨hf, hd⟩ := chk_ok hc
      obtain ⟨K, g⟩ := SpG_f [c] (by omega) hP' hf hd
      have hB := (g K (by omega)).1
      refine Ev.ifp hc ?_
      rw [if_pos hc]
      refine Ev.ifp rfl (Ev.bind (a := str (firstL c)) ?_ (Ev.ret (by simp)))
      cases hP9 with
      | cons _ _ h1 _ _ =>
        refine rLine_f c (by have := h1.1; omega) (fun t ht => by have := h1.2 t ht; omega) (by rw [szL] at hsz; omega) ?_
        exact Nat.le_trans (first_le c [] 0).1 (Nat.le_trans hB (Nat.le_of_ble_eq_true rfl))
    · refine Ev.ifn hc ?_
      rw [if_neg hc]
      refine Ev.ifp rfl (Ev.ret ?_)
      rw [toList_lst]; rfl
end Go.Proofs.YtkifdadhojbohaaGreatDoor.Pu
namespace Go.Proofs.YtkifdadhojbohaaGreatDoor.Pr
open Go.RowKit Go.Proofs.YtkifdadhojbohaaGreatDoor Go.Proofs.YtkifdadhojbohaaGreatDoorW.PrintWords Go.Proofs.YtkifdadhojbohaaGreatDoorW.PrintLast Go.Proofs.YtkifdadhojbohaaGreatDoorW.PrintMore
theorem heap46 : Kd.Heap k46 := Kd.heap_iso _ (Kd.heap_pair (Kd.heap_int .i64) (Kd.heap_pair Kd.heap_string (Kd.heap_pair (Kd.heap_int .i64) (Kd.heap_int .i64))))
theorem heap41 : Kd.Heap k41 := Kd.heap_fix (fun d hd => Kd.heap_iso _ (Kd.heap_pair Kd.heap_string (Kd.heap_pair (Kd.heap_slice 50 heap46) (Kd.heap_pair Kd.heap_bool (Kd.heap_pair (Kd.heap_slice 25 hd) (Kd.heap_int .i64))))))
theorem salchowlaw11_PrinterLine.callsC (k : Nat) (a0 : ByteArray) (A1 : Option Addr) (c1 : Nat) (l1 : List (S46)) (b2 : Bool) (A3 : Option Addr) (c3 : Nat) (l3 : List (S41)) (a4 : Int) (r : Bool) (w : World) (hG : Gl w) (hr1 : Kd.C k46 w A1 l1.length l1) (hc1 : l1.length ≤ c1) (hr3 : Kd.C k41 w A3 l3.length l3) (hc3 : l3.length ≤ c3) (h : salchowlaw11_PrinterLine.f k a0 l1 b2 l3 a4 = some r) :
    Calls Tryz.prog 3 #[.agg #[.string a0, .slice A1 l1.length c1, .bool b2, .slice A3 l3.length c3, .int .i64 a4]] w fun e w' => e = .returned (.bool r) ∧ Below w.heap.size w w' :=
  salchowlaw11_PrinterLine.calls k a0 (fun k_ => k_ < w.heap.size) A1 c1 l1 b2 (fun k_ => k_ < w.heap.size) A3 c3 l3 a4 r w hG (Kd.V_mk hc1 (Kd.C_F heap46 hr1)) (Kd.V_mk hc3 (Kd.C_F heap41 hr3)) h
end Go.Proofs.YtkifdadhojbohaaGreatDoor.Pr
namespace Go.Proofs.YtkifdadhojbohaaGreatDoor.printerLine
open Go.Proofs.YtkifdadhojbohaaGreatDoorW.PrintWords
open Go.ChangeShapes Go.WideShapes Go.ChangeAt Go.RowKit Rk
open Go.ChangeMaps (open_string shut_string)
theorem c09 : (Rows.printerLineRow.inPlace == Tryz.prog.inPlace 3) = true := by kernel_rfl
theorem c10 : (Rows.printerLineRow.unfollowed == Tryz.prog.unfollowed 3) = true := by kernel_rfl
theorem c11 : (Rows.printerLineRow.recurses == Tryz.prog.recurses 3) = true := by kernel_rfl
theorem c12 : (Rows.printerLineRow.named == Tryz.prog.varsNamed 3) = true := by kernel_rfl
theorem facts : joinedFacts Tryz.prog 3 Tryz.f3 Rows.printerLineSpec Rows.printerLineRow = true :=
  facts_of _ _ _ _ _ (by kernel_rfl) out_ rowed_ (by kernel_rfl) (by kernel_rfl) rfl (by kernel_rfl) rfl (by kernel_rfl) c09 c10 c11 c12 (by kernel_rfl) (by kernel_rfl) (by kernel_rfl) (by kernel_rfl) (by kernel_rfl)
    (by kernel_rfl) (by kernel_rfl) (by kernel_rfl) (by kernel_rfl) (by kernel_rfl) (by kernel_rfl) heard_ enter_ (by kernel_rfl) (by kernel_rfl) (by kernel_rfl) (by kernel_rfl) (by kernel_rfl) (by kernel_rfl)
theorem goes : false = Rows.printerLineRow.goesBy Tryz.prog := by kernel_rfl
theorem lifted (os : Os) (started : os.Started) (H : Type) (enc : TypeId × Value → H) :
    ReturnsInHanded {} Tryz.checked os 3 .any (fun w args => (Rows.printerLineSpec.pre enc Tryz.prog Tryz.f3 [] false w args ∧ laidMetH Tryz.prog laidB w) ∧ sizedMet enc Tryz.prog Tryz.f3 (OpenSpec.ofChange Rows.printerLineSpec) false w args)
      (Rows.printerLineSpec.post enc Tryz.prog Tryz.f3 false true false false) := by
  refine returnsInHanded_of_change_and (C := Tryz.checked) (X := fun w _ => laidMetH Tryz.prog laidB w) (fun _ _ _ hh h => h.of_heap hh) own started (by kernel_rfl) Tryz.func3
    (ChangeSpec.witness_shaped (enc := enc) (C := Tryz.checked) (os := os) (X := fun w _ => laidMetH Tryz.prog laidB w) false (wB os) #[.agg #[.string ByteArray.empty, .slice none 0 0, .bool false, .slice none 0 0, .int .i64 0]] 8 (World.laidAll_os _ _ _)
      (World.shaped_of_ZipB (by kernel_rfl) (by kernel_rfl)) (by kernel_rfl) (by kernel_rfl) (by kernel_rfl) (met_B os _)) ?_
  intro W base args ds gs before hval0 hW _ hsz0 hL _
  have hsz : (DataW.weightsEach Tryz.prog (Tryz.f3.params.toList ++ Rows.printerLineSpec.plain.varTypes Tryz.prog) (ds ++ gs)).all (· ≤ reachBytes) = true := hsz0
  have hval : ∀ (j : Nat) t v, Tryz.f3.params[j]? = some t → args[j]? = some v → Value.okWide Tryz.prog W .any base t v := hval0
  have hW' := hW
  obtain ⟨p, q, hA0, hV, rfl, _, _⟩ := hW
  have hA : DataW.TrodAll enc Tryz.prog W 0 (fun _ => true) true Tryz.f3.params.toList args.toList ds p := hA0
  rw [Tryz.params3] at hA hval hsz
  obtain ⟨v0, vs0, d0, ds0, p0, q0, hargs, rfl, rfl, h0, r0⟩ := trodAll_cons hA
  obtain ⟨rfl, rfl, rfl⟩ := trodAll_nil r0
  obtain rfl : args = #[v0] := by cases args; simp_all
  obtain ⟨rfl, rfl⟩ := trodVars_none hV
  have k0 := h0
  have lt0 : ∀ x ∈ p0, x.block < W.heap.size := by obtain ⟨m, hm⟩ := k0; exact DataW.trod_lt m _ _ _ hm
  obtain ⟨q0_, A1, c1, A3, c3, rfl, l1, g1, l3, g3⟩ := open_clause (hval 0 25 v0 rfl rfl) h0
  clear hA0 hval0 hsz0 hsz
  obtain ⟨k, hk⟩ := Pu.printerLine q0_.f0 q0_.f1 q0_.f2 q0_.f3 q0_.f4
  refine (Pr.salchowlaw11_PrinterLine.callsC k q0_.f0 A1 c1 q0_.f1 q0_.f2 A3 c3 q0_.f3 q0_.f4 true W (gl_B hL) g1 l1 g3 l3 hk).mono fun e W' ⟨he, bel⟩ => ?_
  subst he
  exact ⟨_, rfl, _, _, _, [], _, [], hW', trodAll_mk1 (shut_bool Tryz.underlying4 _), (trodAll_cons_mk (Below.trod out_ (by kernel_rfl) (of_decide_eq_true (by kernel_rfl)) k0 bel lt0) trodAll_mk0), rfl, bel.frame _, fun h => by cases h⟩
theorem over : Rows.printerLineRow.holds Tryz.pinned (OpenSpec.ofChange Rows.printerLineSpec) :=
  OpenClaim.holds_of_wide 3 Tryz.f3 rfl rfl rfl rfl rfl rfl rfl ⟨rfl, rfl, rfl, rfl, rfl⟩ rfl rfl rfl rfl rfl (by kernel_rfl) Tryz.func3 facts
    (of_decide_eq_true (by kernel_rfl)) (by unfold Func.isWrapper; first | (rw [if_pos (by decide +kernel)]; kernel_rfl) | (rw [if_neg (by decide +kernel)]; exact ⟨rfl, rfl⟩))
    (fun os started H enc _ => lifted os started H enc)
theorem card : Rows.PrinterLineCardSaid :=
  Claim7.holds_tied_plain_at .later [] [.data, .data, .data, .data, .sentinel, .sentinel, .pinned] true (true, "91c84e077da0f3e7c89b9306fb49b5e0abee8c509dffb0b85426471aa589cd61") true
    over (fun _ h => by cases h) (by kernel_rfl) (fun _ h => by cases h) printerLine_row_tie rfl ⟨rfl, rfl⟩ mainIs_ rfl
    (fun f fn hf hfn => by
      obtain rfl : f = 3 := Option.some.inj ((show Tryz.prog.funcNamed "salchow/salchowlaw11.PrinterLine" = some 3 by kernel_rfl).symm.trans hf) |>.symm
      obtain rfl : fn = Tryz.f3 := (Option.some.inj (Tryz.func3.symm.trans hfn)).symm
      exact ⟨looks_, fun j t ht => by
        rw [Tryz.params3] at ht
        have hm : t ∈ [25] := by simpa using Array.mem_of_getElem? ht
        have hall : ([25].all fun u => !Tryz.prog.wantsStandIn u) = true := by kernel_rfl
        exact (show Tryz.prog.wantsStandIn t = false by simpa using List.all_eq_true.1 hall t hm)⟩)
    goes
#print axioms card
end Go.Proofs.YtkifdadhojbohaaGreatDoor.printerLine
