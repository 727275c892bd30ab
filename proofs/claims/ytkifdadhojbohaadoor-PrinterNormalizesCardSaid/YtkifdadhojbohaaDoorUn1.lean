/- Joined out of the texts of this proof that bear the names PrF50 PrF20 PyC2 RowPrinterNormalizes: what each shows stands over it there. -/
import Derived.Test.YtkifdadhojbohaaDoorUk1
import Derived.Test.YtkifdadhojbohaaDoorUs1
import Derived.Test.YtkifdadhojbohaaDoorUo1
import Derived.Test.YtkifdadhojbohaaDoorUp1
import Derived.Test.YtkifdadhojbohaaDoorUr1
import Derived.Test.YtkifdadhojbohaaDoorCards
import Derived.Test.YtkifdadhojbohaaDoorTie
import Derived.WalkKit
import Derived.OpenShut
import Derived.ShutString
import Derived.ChangeOld
import Derived.SizedLaws
import Derived.SevenTiedAt
import Derived.Handed
import Derived.LaidLaws
set_option linter.unusedVariables false
set_option linter.unusedSimpArgs false
namespace Go.Proofs.YtkifdadhojbohaaDoor.Pr
open Go.Proofs.YtkifdadhojbohaaDoor
open Go.RowKit Go.Proofs.YtkifdadhojbohaaDoorW.PrintWords Go.Proofs.YtkifdadhojbohaaDoorW.PrintLast Go.Proofs.YtkifdadhojbohaaDoorW.PrintMore
attribute [local go_sem] max2_int min2_int max_two min_two max_three min_three max_four min_four   -- for this text's walks alone
set_option linter.unusedVariables false
set_option linter.unusedSimpArgs false
def printer_Equal.f (k : Nat) (a0 : ByteArray) (a1 : ByteArray) : Option (Bool) := (parser_Parse.f k a0).bind fun bt182 => ((parser_Parse.f k a1).bind fun bt188 => (if bt182.2.1 = 0 then (if bt188.2.1 = 0 then ((pSame.f k bt182.1 bt188.1).bind fun t194 => (some t194)) else (some false)) else (some false)))
theorem printer_Equal.mono : ∀ a0 a1 k, LeO (printer_Equal.f k a0 a1) (printer_Equal.f (k + 1) a0 a1) := by
 intro a0 a1 k
 unfold printer_Equal.f
 repeat' first
   | (with_reducible exact LeO.refl _)
   | exact pSame.mono _ _ _
   | exact parser_Parse.mono _ _
   | exact LeO.none _
   | refine LeO.ite ?_ ?_
   | refine LeO.bind ?_ (fun _ => ?_)
set_option maxHeartbeats 8000000 in
set_option maxRecDepth 100000 in
theorem printer_Equal.calls (k : Nat) (a0 : ByteArray) (a1 : ByteArray) (r : Bool) (w : World) (h : printer_Equal.f k a0 a1 = some r) :
  Calls Tryd.prog 50 #[.string a0, .string a1] w fun e w' => e = .returned (.bool r) ∧ Below w.heap.size w w' := by
 have hu26 := Tryd.underlying26
 have HB := Aside0.mk (Below.refl w.heap.size w)
 have H : ((parser_Parse.f k a0).bind fun bt182 => ((parser_Parse.f k a1).bind fun bt188 => (if bt182.2.1 = 0 then (if bt188.2.1 = 0 then ((pSame.f k bt182.1 bt188.1).bind fun t194 => (some t194)) else (some false)) else (some false)))) = some r := h
 clear h
 replace H := Option.bind_eq_some_iff.mp H
 obtain ⟨⟨t182, t185, t186⟩, A30, H⟩ := H
 (try dsimp only at H)
 have A3 := Aside0.mk A30
 clear A30
 replace H := Option.bind_eq_some_iff.mp H
 obtain ⟨⟨t188, t191, t192⟩, A40, H⟩ := H
 (try dsimp only at H)
 have A4 := Aside0.mk A40
 clear A40
 by_cases c5 : t185 = 0
 ·
  rw [if_pos c5] at H
  have c5b0 := beq_iff_eq.mpr c5
  have c5b1 := bne_eq_false_iff_eq.mpr c5
  clear c5
  by_cases c6 : t191 = 0
  ·
   rw [if_pos c6] at H
   have c6b0 := beq_iff_eq.mpr c6
   have c6b1 := bne_eq_false_iff_eq.mpr c6
   clear c6
   replace H := Option.bind_eq_some_iff.mp H
   obtain ⟨t194, A70, H⟩ := H
   (try dsimp only at H)
   have A7 := Aside0.mk A70
   clear A70
   obtain rfl := Option.some.inj H
   go_enter Tryd.func50, Tryd.ntmps50
   go_wp2_with (first | ((with_reducible refine gate_callee (f := 22) rfl ?_); refine goesL_ (some 11) rfl rfl Tryd.func22 (by kernel_rfl) rfl #[.string a0] rfl ga_ ?_; (with_reducible refine (parser_Parse.calls k a0 t182 t185 t186 _ A3.out).mono ?_); rintro e w8 ⟨v183, rfl, ho0, hb⟩; refine ⟨_, rfl, ?_⟩; refine cut2_ (Kd.R_lower ho0 (below_size (bl_ HB.out))) (below_step (bl_ HB.out) hb) ?_; clear HB; intro HO184 HB; (try clear hb); (try clear hb2); (try clear hk); (try clear hi); (try clear ho0)) | ((with_reducible refine gate_dst (N := 6) rfl ?_); refine bx_ (N := 6) (cs := #[.int .i64 0, .int .i64 0]) (t := 26) ?_; intro gb187 hg w9 hbox hb; refine cut5_ (Kd.R_below (rR_ HO184.out) hb) (below_step (bl_ HB.out) hb) (hbox) (bz_ (w := w) hg (bl_ HB.out)) (bz_ (w := w) hg (bl_ HB.out)) ?_; clear HO184 HB; intro HO184 HB BK187 GW187 GE187; clear hb hbox hg; obtain ⟨hcz10_0, hcz10_1, hfz10_0, hfz10_1⟩ := cq2_ BK187.out) | ((with_reducible refine gate_callee (f := 22) rfl ?_); refine goesL_ (some 16) rfl rfl Tryd.func22 (by kernel_rfl) rfl #[.string a1] rfl ga_ ?_; (with_reducible refine (parser_Parse.calls k a1 t188 t191 t192 _ A4.out).mono ?_); rintro e w11 ⟨v189, rfl, ho0, hb⟩; refine ⟨_, rfl, ?_⟩; refine cut4_ (Kd.R_elder' (rR_ (Kd.R_mono (Kd.R_far (p := ⟨gb187, 1, none⟩) (Kd.R_far (p := ⟨gb187, 0, none⟩) (Kd.R_types HO184.out BK187.out (by decide)) (fun _ hk => hk.2) (.int .i64 t185)) (fun _ hk => hk.2) (.int .i64 t186)) (fun _ h_ => h_.1))) (Kd.R_base ho0) hb) (Kd.R_lower (Kd.R_new' ho0 (Kd.R_lt (rR_ (Kd.R_mono (Kd.R_far (p := ⟨gb187, 1, none⟩) (Kd.R_far (p := ⟨gb187, 0, none⟩) (Kd.R_types HO184.out BK187.out (by decide)) (fun _ hk => hk.2) (.int .i64 t185)) (fun _ hk => hk.2) (.int .i64 t186)) (fun _ h_ => h_.1))))) (below_size (bl1_ HB.out GE187.out))) (blk_below (g := gb187) (o := .cells #[.int .i64 t185, .int .i64 t186] 26 (0, 0)) (put2_ (bk_ BK187.out)) hb) (below_step (bl1_ HB.out GE187.out) hb) ?_; clear HO184 BK187 HB; intro HO184 HO190 BK187 HB; (try clear hb); (try clear hb2); (try clear hk); (try clear hi); (try clear ho0)) | ((with_reducible refine gate_dst (N := 8) rfl ?_); refine bx_ (N := 8) (cs := #[.int .i64 0, .int .i64 0]) (t := 26) ?_; intro gb193 hg w12 hbox hb; refine cut9_ (Kd.R_below (rR_ HO184.out) hb) (Kd.R_below (rR_ HO190.out) hb) (bb_ BK187.out hb) (below_step (bl1_ HB.out GE187.out) hb) (hbox) (bz_ (w := w) hg (bl1_ HB.out GE187.out)) (bz_ (w := w) hg (bl1_ HB.out GE187.out)) (nl_ hg BK187.out) (ng_ hg BK187.out) ?_; clear HO184 HO190 BK187 HB; intro HO184 HO190 BK187 HB BK193 GW193 GE193 NB187_193 NB193_187; clear hb hbox hg; have hnb13 := NB193_187.out; have hnc13 := NB187_193.out; obtain ⟨hcz14_0, hcz14_1, hfz14_0, hfz14_1⟩ := cq2_ BK193.out; obtain ⟨hcz15_0, hcz15_1, hfz15_0, hfz15_1⟩ := cq2_ BK187.out; obtain ⟨Ao16, co16, eo16⟩ := Kd.R_slice HO184.out; subst eo16; obtain ⟨Ao17, co17, eo17⟩ := Kd.R_slice HO190.out; subst eo17) | (go_at_call 29; (with_reducible refine (pSame.calls k _ _ t182 _ _ t188 t194 _ ?side1 ?side2 ?side3 ?side4 A7.out).mono ?_); (case side1 => refine (Kd.R_reads' (e := 41) (base := w.heap.size) (ok := fun k_ => (True ∧ some k_ ≠ (.slice Ao17 t188.length co17 : Value).ownBlock)) (n := t182.length) (c := co16) ?_).2.2; exact (rR_ (Kd.R_mono (Kd.R_far (p := ⟨gb193, 1, none⟩) (Kd.R_far (p := ⟨gb193, 0, none⟩) (Kd.R_types HO184.out BK193.out (by decide)) (fun _ hk => hk.2) (.int .i64 t191)) (fun _ hk => hk.2) (.int .i64 t192)) (fun _ h_ => h_.1)))); (case side2 => exact (Kd.R_reads' HO184.out).2.1); (case side3 => refine (Kd.R_reads' (e := 41) (base := w.heap.size) (ok := fun k_ => (True ∧ some k_ ≠ (.slice Ao16 t182.length co16 : Value).ownBlock)) (n := t188.length) (c := co17) ?_).2.2; exact (rR_ (Kd.R_mono (Kd.R_far (p := ⟨gb193, 1, none⟩) (Kd.R_far (p := ⟨gb193, 0, none⟩) (Kd.R_types HO190.out BK193.out (by decide)) (fun _ hk => hk.2) (.int .i64 t191)) (fun _ hk => hk.2) (.int .i64 t192)) (fun _ h_ => h_.1)))); (case side4 => exact (Kd.R_reads' HO190.out).2.1); rintro e w18 ⟨rfl, hb⟩; refine cut5_ (Kd.R_below (rR_ (Kd.R_mono (Kd.R_far (p := ⟨gb193, 1, none⟩) (Kd.R_far (p := ⟨gb193, 0, none⟩) (Kd.R_types HO184.out BK193.out (by decide)) (fun _ hk => hk.2) (.int .i64 t191)) (fun _ hk => hk.2) (.int .i64 t192)) (fun _ h_ => h_.1))) hb) (Kd.R_below (rR_ (Kd.R_mono (Kd.R_far (p := ⟨gb193, 1, none⟩) (Kd.R_far (p := ⟨gb193, 0, none⟩) (Kd.R_types HO190.out BK193.out (by decide)) (fun _ hk => hk.2) (.int .i64 t191)) (fun _ hk => hk.2) (.int .i64 t192)) (fun _ h_ => h_.1))) hb) (blk_below (g := gb187) (o := .cells #[.int .i64 t185, .int .i64 t186] 26 (0, 0)) (far2_ (bk_ BK187.out) NB187_193.out) hb) (blk_below (g := gb193) (o := .cells #[.int .i64 t191, .int .i64 t192] 26 (0, 0)) (put2_ (bk_ BK193.out)) hb) (below_step (bl2_ HB.out GE187.out GE193.out) hb) ?_; clear HO184 HO190 BK187 BK193 HB; intro HO184 HO190 BK187 BK193 HB; (try clear hb); (try clear hb2); (try clear hk); (try clear hi)))
   go_ret
   exact ⟨er_, bl2_ HB.out GE187.out GE193.out⟩
  ·
   rw [if_neg c6] at H
   have c6b0 := beq_eq_false_iff_ne.mpr c6
   have c6b1 := bne_iff_ne.mpr c6
   obtain rfl := Option.some.inj H
   go_enter Tryd.func50, Tryd.ntmps50
   go_wp2_with (first | ((with_reducible refine gate_callee (f := 22) rfl ?_); refine goesL_ (some 11) rfl rfl Tryd.func22 (by kernel_rfl) rfl #[.string a0] rfl ga_ ?_; (with_reducible refine (parser_Parse.calls k a0 t182 t185 t186 _ A3.out).mono ?_); rintro e w19 ⟨v183, rfl, ho0, hb⟩; refine ⟨_, rfl, ?_⟩; refine cut2_ (Kd.R_lower ho0 (below_size (bl_ HB.out))) (below_step (bl_ HB.out) hb) ?_; clear HB; intro HO184 HB; (try clear hb); (try clear hb2); (try clear hk); (try clear hi); (try clear ho0)) | ((with_reducible refine gate_dst (N := 6) rfl ?_); refine bx_ (N := 6) (cs := #[.int .i64 0, .int .i64 0]) (t := 26) ?_; intro gb187 hg w20 hbox hb; refine cut5_ (Kd.R_below (rR_ HO184.out) hb) (below_step (bl_ HB.out) hb) (hbox) (bz_ (w := w) hg (bl_ HB.out)) (bz_ (w := w) hg (bl_ HB.out)) ?_; clear HO184 HB; intro HO184 HB BK187 GW187 GE187; clear hb hbox hg; obtain ⟨hcz21_0, hcz21_1, hfz21_0, hfz21_1⟩ := cq2_ BK187.out) | ((with_reducible refine gate_callee (f := 22) rfl ?_); refine goesL_ (some 16) rfl rfl Tryd.func22 (by kernel_rfl) rfl #[.string a1] rfl ga_ ?_; (with_reducible refine (parser_Parse.calls k a1 t188 t191 t192 _ A4.out).mono ?_); rintro e w22 ⟨v189, rfl, ho0, hb⟩; refine ⟨_, rfl, ?_⟩; refine cut4_ (Kd.R_elder' (rR_ (Kd.R_mono (Kd.R_far (p := ⟨gb187, 1, none⟩) (Kd.R_far (p := ⟨gb187, 0, none⟩) (Kd.R_types HO184.out BK187.out (by decide)) (fun _ hk => hk.2) (.int .i64 t185)) (fun _ hk => hk.2) (.int .i64 t186)) (fun _ h_ => h_.1))) (Kd.R_base ho0) hb) (Kd.R_lower (Kd.R_new' ho0 (Kd.R_lt (rR_ (Kd.R_mono (Kd.R_far (p := ⟨gb187, 1, none⟩) (Kd.R_far (p := ⟨gb187, 0, none⟩) (Kd.R_types HO184.out BK187.out (by decide)) (fun _ hk => hk.2) (.int .i64 t185)) (fun _ hk => hk.2) (.int .i64 t186)) (fun _ h_ => h_.1))))) (below_size (bl1_ HB.out GE187.out))) (blk_below (g := gb187) (o := .cells #[.int .i64 t185, .int .i64 t186] 26 (0, 0)) (put2_ (bk_ BK187.out)) hb) (below_step (bl1_ HB.out GE187.out) hb) ?_; clear HO184 BK187 HB; intro HO184 HO190 BK187 HB; (try clear hb); (try clear hb2); (try clear hk); (try clear hi); (try clear ho0)) | ((with_reducible refine gate_dst (N := 8) rfl ?_); refine bx_ (N := 8) (cs := #[.int .i64 0, .int .i64 0]) (t := 26) ?_; intro gb193 hg w23 hbox hb; refine cut9_ (Kd.R_below (rR_ HO184.out) hb) (Kd.R_below (rR_ HO190.out) hb) (bb_ BK187.out hb) (below_step (bl1_ HB.out GE187.out) hb) (hbox) (bz_ (w := w) hg (bl1_ HB.out GE187.out)) (bz_ (w := w) hg (bl1_ HB.out GE187.out)) (nl_ hg BK187.out) (ng_ hg BK187.out) ?_; clear HO184 HO190 BK187 HB; intro HO184 HO190 BK187 HB BK193 GW193 GE193 NB187_193 NB193_187; clear hb hbox hg; have hnb24 := NB193_187.out; have hnc24 := NB187_193.out; obtain ⟨hcz25_0, hcz25_1, hfz25_0, hfz25_1⟩ := cq2_ BK193.out; obtain ⟨hcz26_0, hcz26_1, hfz26_0, hfz26_1⟩ := cq2_ BK187.out))
   go_ret
   exact ⟨er_, bl2_ HB.out GE187.out GE193.out⟩
 ·
  rw [if_neg c5] at H
  have c5b0 := beq_eq_false_iff_ne.mpr c5
  have c5b1 := bne_iff_ne.mpr c5
  obtain rfl := Option.some.inj H
  go_enter Tryd.func50, Tryd.ntmps50
  go_wp2_with (first | ((with_reducible refine gate_callee (f := 22) rfl ?_); refine goesL_ (some 11) rfl rfl Tryd.func22 (by kernel_rfl) rfl #[.string a0] rfl ga_ ?_; (with_reducible refine (parser_Parse.calls k a0 t182 t185 t186 _ A3.out).mono ?_); rintro e w27 ⟨v183, rfl, ho0, hb⟩; refine ⟨_, rfl, ?_⟩; refine cut2_ (Kd.R_lower ho0 (below_size (bl_ HB.out))) (below_step (bl_ HB.out) hb) ?_; clear HB; intro HO184 HB; (try clear hb); (try clear hb2); (try clear hk); (try clear hi); (try clear ho0)) | ((with_reducible refine gate_dst (N := 6) rfl ?_); refine bx_ (N := 6) (cs := #[.int .i64 0, .int .i64 0]) (t := 26) ?_; intro gb187 hg w28 hbox hb; refine cut5_ (Kd.R_below (rR_ HO184.out) hb) (below_step (bl_ HB.out) hb) (hbox) (bz_ (w := w) hg (bl_ HB.out)) (bz_ (w := w) hg (bl_ HB.out)) ?_; clear HO184 HB; intro HO184 HB BK187 GW187 GE187; clear hb hbox hg; obtain ⟨hcz29_0, hcz29_1, hfz29_0, hfz29_1⟩ := cq2_ BK187.out) | ((with_reducible refine gate_callee (f := 22) rfl ?_); refine goesL_ (some 16) rfl rfl Tryd.func22 (by kernel_rfl) rfl #[.string a1] rfl ga_ ?_; (with_reducible refine (parser_Parse.calls k a1 t188 t191 t192 _ A4.out).mono ?_); rintro e w30 ⟨v189, rfl, ho0, hb⟩; refine ⟨_, rfl, ?_⟩; refine cut4_ (Kd.R_elder' (rR_ (Kd.R_mono (Kd.R_far (p := ⟨gb187, 1, none⟩) (Kd.R_far (p := ⟨gb187, 0, none⟩) (Kd.R_types HO184.out BK187.out (by decide)) (fun _ hk => hk.2) (.int .i64 t185)) (fun _ hk => hk.2) (.int .i64 t186)) (fun _ h_ => h_.1))) (Kd.R_base ho0) hb) (Kd.R_lower (Kd.R_new' ho0 (Kd.R_lt (rR_ (Kd.R_mono (Kd.R_far (p := ⟨gb187, 1, none⟩) (Kd.R_far (p := ⟨gb187, 0, none⟩) (Kd.R_types HO184.out BK187.out (by decide)) (fun _ hk => hk.2) (.int .i64 t185)) (fun _ hk => hk.2) (.int .i64 t186)) (fun _ h_ => h_.1))))) (below_size (bl1_ HB.out GE187.out))) (blk_below (g := gb187) (o := .cells #[.int .i64 t185, .int .i64 t186] 26 (0, 0)) (put2_ (bk_ BK187.out)) hb) (below_step (bl1_ HB.out GE187.out) hb) ?_; clear HO184 BK187 HB; intro HO184 HO190 BK187 HB; (try clear hb); (try clear hb2); (try clear hk); (try clear hi); (try clear ho0)) | ((with_reducible refine gate_dst (N := 8) rfl ?_); refine bx_ (N := 8) (cs := #[.int .i64 0, .int .i64 0]) (t := 26) ?_; intro gb193 hg w31 hbox hb; refine cut9_ (Kd.R_below (rR_ HO184.out) hb) (Kd.R_below (rR_ HO190.out) hb) (bb_ BK187.out hb) (below_step (bl1_ HB.out GE187.out) hb) (hbox) (bz_ (w := w) hg (bl1_ HB.out GE187.out)) (bz_ (w := w) hg (bl1_ HB.out GE187.out)) (nl_ hg BK187.out) (ng_ hg BK187.out) ?_; clear HO184 HO190 BK187 HB; intro HO184 HO190 BK187 HB BK193 GW193 GE193 NB187_193 NB193_187; clear hb hbox hg; have hnb32 := NB193_187.out; have hnc32 := NB187_193.out; obtain ⟨hcz33_0, hcz33_1, hfz33_0, hfz33_1⟩ := cq2_ BK193.out; obtain ⟨hcz34_0, hcz34_1, hfz34_0, hfz34_1⟩ := cq2_ BK187.out))
  go_ret
  exact ⟨er_, bl2_ HB.out GE187.out GE193.out⟩
end Go.Proofs.YtkifdadhojbohaaDoor.Pr
namespace Go.Proofs.YtkifdadhojbohaaDoor.Pr
open Go.Proofs.YtkifdadhojbohaaDoor
open Go.RowKit Go.Proofs.YtkifdadhojbohaaDoorW.PrintWords Go.Proofs.YtkifdadhojbohaaDoorW.PrintLast Go.Proofs.YtkifdadhojbohaaDoorW.PrintMore
attribute [local go_sem] max2_int min2_int max_two min_two max_three min_three max_four min_four   -- for this text's walks alone
set_option linter.unusedVariables false
set_option linter.unusedSimpArgs false
attribute [local go_sem high] eqA26
def salchowlaw11_PrinterNormalizes.f (k : Nat) (a0 : ByteArray) : Option (Bool) := (salchowlaw11_awake.f k).bind fun t195 => (if t195 = true then (if (a0.size : Int) > 1500 then (some true) else ((printer_Normalize.f k a0).bind fun bt196 => ((parser_Parse.f k a0).bind fun bt200 => (if bt200.2.1 = 0 then ((printer_Print.f k bt200.1).bind fun bt206 => ((printer_Normalize.f k bt196.1).bind fun bt208 => (if (bt196.2.1 == 0 && (bt196.2.2 == 0)) = true then (if bt206.2 = 0 then (if bt196.1.toList = bt206.1.toList then (if (bt208.2.1 == 0 && (bt208.2.2 == 0)) = true then (if bt208.1.toList = bt196.1.toList then ((printer_Equal.f k a0 bt196.1).bind fun t212 => (some t212)) else (none)) else (none)) else (none)) else (none)) else (none)))) else (if (bt196.2.1 == bt200.2.1 && (bt196.2.2 == bt200.2.2)) = true then (if bt196.1.toList = ([] : List UInt8) then ((printer_Equal.f k a0 a0).bind fun t213 => (some (!t213))) else (none)) else (none)))))) else (none))
theorem salchowlaw11_PrinterNormalizes.mono : ∀ a0 k, LeO (salchowlaw11_PrinterNormalizes.f k a0) (salchowlaw11_PrinterNormalizes.f (k + 1) a0) := by
 intro a0 k
 unfold salchowlaw11_PrinterNormalizes.f
 repeat' first
   | (with_reducible exact parser_Parse.mono _ _)
   | (with_reducible exact printer_Equal.mono _ _ _)
   | (with_reducible exact printer_Normalize.mono _ _)
   | (with_reducible exact printer_Print.mono _ _)
   | (with_reducible exact salchowlaw11_awake.mono _)
   | (with_reducible exact LeO.refl _)
   | (with_reducible exact LeO.none _)
   | (with_reducible refine LeO.ite ?_ ?_)
   | (with_reducible refine LeO.bind ?_ (fun _ => ?_))
   | exact parser_Parse.mono _ _
   | exact printer_Equal.mono _ _ _
   | exact printer_Normalize.mono _ _
   | exact printer_Print.mono _ _
   | exact salchowlaw11_awake.mono _
   | exact LeO.none _
   | refine LeO.ite ?_ ?_
   | refine LeO.bind ?_ (fun _ => ?_)
set_option maxHeartbeats 8000000 in
set_option maxRecDepth 100000 in
theorem salchowlaw11_PrinterNormalizes.calls (k : Nat) (a0 : ByteArray) (r : Bool) (w : World) (hG : Gl w) (h : salchowlaw11_PrinterNormalizes.f k a0 = some r) :
  Calls Tryd.prog 20 #[.string a0] w fun e w' => e = .returned (.bool r) ∧ Below w.heap.size w w' := by
 have hu26 := Tryd.underlying26
 have HB := Aside0.mk (Below.refl w.heap.size w)
 have H : ((salchowlaw11_awake.f k).bind fun t195 => (if t195 = true then (if (a0.size : Int) > 1500 then (some true) else ((printer_Normalize.f k a0).bind fun bt196 => ((parser_Parse.f k a0).bind fun bt200 => (if bt200.2.1 = 0 then ((printer_Print.f k bt200.1).bind fun bt206 => ((printer_Normalize.f k bt196.1).bind fun bt208 => (if (bt196.2.1 == 0 && (bt196.2.2 == 0)) = true then (if bt206.2 = 0 then (if bt196.1.toList = bt206.1.toList then (if (bt208.2.1 == 0 && (bt208.2.2 == 0)) = true then (if bt208.1.toList = bt196.1.toList then ((printer_Equal.f k a0 bt196.1).bind fun t212 => (some t212)) else (none)) else (none)) else (none)) else (none)) else (none)))) else (if (bt196.2.1 == bt200.2.1 && (bt196.2.2 == bt200.2.2)) = true then (if bt196.1.toList = ([] : List UInt8) then ((printer_Equal.f k a0 a0).bind fun t213 => (some (!t213))) else (none)) else (none)))))) else (none))) = some r := h
 clear h
 replace H := Option.bind_eq_some_iff.mp H
 obtain ⟨t195, A20, H⟩ := H
 (try dsimp only at H)
 have A2 := Aside0.mk A20
 clear A20
 by_cases c3 : t195 = true
 ·
  subst c3
  have H1 : (if (a0.size : Int) > 1500 then (some true) else ((printer_Normalize.f k a0).bind fun bt196 => ((parser_Parse.f k a0).bind fun bt200 => (if bt200.2.1 = 0 then ((printer_Print.f k bt200.1).bind fun bt206 => ((printer_Normalize.f k bt196.1).bind fun bt208 => (if (bt196.2.1 == 0 && (bt196.2.2 == 0)) = true then (if bt206.2 = 0 then (if bt196.1.toList = bt206.1.toList then (if (bt208.2.1 == 0 && (bt208.2.2 == 0)) = true then (if bt208.1.toList = bt196.1.toList then ((printer_Equal.f k a0 bt196.1).bind fun t212 => (some t212)) else (none)) else (none)) else (none)) else (none)) else (none)))) else (if (bt196.2.1 == bt200.2.1 && (bt196.2.2 == bt200.2.2)) = true then (if bt196.1.toList = ([] : List UInt8) then ((printer_Equal.f k a0 a0).bind fun t213 => (some (!t213))) else (none)) else (none)))))) = some r := by rw [if_pos rfl] at H; exact H
  clear H
  have H := H1
  clear H1
  by_cases c4 : (a0.size : Int) > 1500
  ·
   rw [if_pos c4] at H
   have c4b0 := decide_eq_true c4
   have c4b1 : decide (1500 < a0.size) = true := decide_eq_true (by omega)
   clear c4
   obtain rfl := Option.some.inj H
   go_enter Tryd.func20, Tryd.ntmps20
   go_wp2_with (first | ((with_reducible refine gate_callee (f := 47) rfl ?_); refine goesL_ (some 11) rfl rfl Tryd.func47 (by kernel_rfl) rfl #[] rfl ga_ ?_; (with_reducible refine (salchowlaw11_awake.calls k  true _ ?side1 A2.out).mono ?_); (case side1 => exact Gl.below hG (bl_ HB.out)); rintro e w5 ⟨rfl, hb⟩; refine ⟨_, rfl, ?_⟩; refine cut1_ (below_step (bl_ HB.out) hb) ?_; clear HB; intro HB; (try clear hb); (try clear hb2); (try clear hk); (try clear hi)))
   go_ret
   exact ⟨er_, bl_ HB.out⟩
  ·
   rw [if_neg c4] at H
   have c4b0 := decide_eq_false c4
   have c4b1 : decide (1500 < a0.size) = false := decide_eq_false (by omega)
   clear c4
   replace H := Option.bind_eq_some_iff.mp H
   obtain ⟨⟨t196, t197, t198⟩, A60, H⟩ := H
   (try dsimp only at H)
   have A6 := Aside0.mk A60
   clear A60
   replace H := Option.bind_eq_some_iff.mp H
   obtain ⟨⟨t200, t203, t204⟩, A70, H⟩ := H
   (try dsimp only at H)
   have A7 := Aside0.mk A70
   clear A70
   by_cases c8 : t203 = 0
   ·
    rw [if_pos c8] at H
    have c8b0 := beq_iff_eq.mpr c8
    have c8b1 := bne_eq_false_iff_eq.mpr c8
    clear c8
    replace H := Option.bind_eq_some_iff.mp H
    obtain ⟨⟨t206, t207⟩, A90, H⟩ := H
    (try dsimp only at H)
    have A9 := Aside0.mk A90
    clear A90
    replace H := Option.bind_eq_some_iff.mp H
    obtain ⟨⟨t208, t209, t210⟩, A100, H⟩ := H
    (try dsimp only at H)
    have A10 := Aside0.mk A100
    clear A100
    by_cases c11 : (t197 == 0 && (t198 == 0)) = true
    ·
     rw [if_pos c11] at H
     have c11b0 : (t197 == 0 && (t198 == 0)) = true := c11
     (try (have c11b1 : decide (t197 = 0 && (t198 == 0)) = true := by simpa using c11))
     (try (have c11b2 : (t197 == 0 && (t198 == 0)) = true := by simpa using c11))
     clear c11
     by_cases c12 : t207 = 0
     ·
      rw [if_pos c12] at H
      have c12b0 := beq_iff_eq.mpr c12
      have c12b1 := bne_eq_false_iff_eq.mpr c12
      clear c12
      by_cases c13 : t196.toList = t206.toList
      ·
       rw [if_pos c13] at H
       have c13b0 := beq_iff_eq.mpr c13
       have c13b1 := bne_eq_false_iff_eq.mpr c13
       clear c13
       by_cases c14 : (t209 == 0 && (t210 == 0)) = true
       ·
        rw [if_pos c14] at H
        have c14b0 : (t209 == 0 && (t210 == 0)) = true := c14
        (try (have c14b1 : decide (t209 = 0 && (t210 == 0)) = true := by simpa using c14))
        (try (have c14b2 : (t209 == 0 && (t210 == 0)) = true := by simpa using c14))
        clear c14
        by_cases c15 : t208.toList = t196.toList
        ·
         rw [if_pos c15] at H
         have c15b0 := beq_iff_eq.mpr c15
         have c15b1 := bne_eq_false_iff_eq.mpr c15
         clear c15
         replace H := Option.bind_eq_some_iff.mp H
         obtain ⟨t212, A160, H⟩ := H
         (try dsimp only at H)
         have A16 := Aside0.mk A160
         clear A160
         obtain rfl := Option.some.inj H
         go_enter Tryd.func20, Tryd.ntmps20
         go_wp2_with (first | ((with_reducible refine gate_callee (f := 47) rfl ?_); refine goesL_ (some 11) rfl rfl Tryd.func47 (by kernel_rfl) rfl #[] rfl ga_ ?_; (with_reducible refine (salchowlaw11_awake.calls k  true _ ?side1 A2.out).mono ?_); (case side1 => exact Gl.below hG (bl_ HB.out)); rintro e w17 ⟨rfl, hb⟩; refine ⟨_, rfl, ?_⟩; refine cut1_ (below_step (bl_ HB.out) hb) ?_; clear HB; intro HB; (try clear hb); (try clear hb2); (try clear hk); (try clear hi)) | ((with_reducible refine gate_callee (f := 49) rfl ?_); refine goesL_ (some 18) rfl rfl Tryd.func49 (by kernel_rfl) rfl #[.string a0] rfl ga_ ?_; (with_reducible refine (printer_Normalize.calls k a0 t196 t197 t198 _ ?side1 A6.out).mono ?_); (case side1 => exact Gl.below hG (bl_ HB.out)); rintro e w18 ⟨rfl, hb⟩; refine ⟨_, rfl, ?_⟩; refine cut1_ (below_step (bl_ HB.out) hb) ?_; clear HB; intro HB; (try clear hb); (try clear hb2); (try clear hk); (try clear hi)) | ((with_reducible refine gate_dst (N := 4) rfl ?_); refine bx_ (N := 4) (cs := #[.int .i64 0, .int .i64 0]) (t := 26) ?_; intro gb199 hg w19 hbox hb; refine cut4_ (below_step (bl_ HB.out) hb) (hbox) (bz_ (w := w) hg (bl_ HB.out)) (bz_ (w := w) hg (bl_ HB.out)) ?_; clear HB; intro HB BK199 GW199 GE199; clear hb hbox hg; obtain ⟨hcz20_0, hcz20_1, hfz20_0, hfz20_1⟩ := cq2_ BK199.out) | ((with_reducible refine gate_callee (f := 22) rfl ?_); refine goesL_ (some 23) rfl rfl Tryd.func22 (by kernel_rfl) rfl #[.string a0] rfl ga_ ?_; (with_reducible refine (parser_Parse.calls k a0 t200 t203 t204 _ A7.out).mono ?_); rintro e w21 ⟨v201, rfl, ho0, hb⟩; refine ⟨_, rfl, ?_⟩; refine cut3_ (Kd.R_lower ho0 (below_size (bl1_ HB.out GE199.out))) (blk_below (g := gb199) (o := .cells #[.int .i64 t197, .int .i64 t198] 26 (0, 0)) (put2_ (bk_ BK199.out)) hb) (below_step (bl1_ HB.out GE199.out) hb) ?_; clear BK199 HB; intro HO202 BK199 HB; (try clear hb); (try clear hb2); (try clear hk); (try clear hi); (try clear ho0)) | ((with_reducible refine gate_dst (N := 6) rfl ?_); refine bx_ (N := 6) (cs := #[.int .i64 0, .int .i64 0]) (t := 26) ?_; intro gb205 hg w22 hbox hb; refine cut8_ (Kd.R_below (rR_ HO202.out) hb) (bb_ BK199.out hb) (below_step (bl1_ HB.out GE199.out) hb) (hbox) (bz_ (w := w) hg (bl1_ HB.out GE199.out)) (bz_ (w := w) hg (bl1_ HB.out GE199.out)) (nl_ hg BK199.out) (ng_ hg BK199.out) ?_; clear HO202 BK199 HB; intro HO202 BK199 HB BK205 GW205 GE205 NB199_205 NB205_199; clear hb hbox hg; have hnb23 := NB205_199.out; have hnc23 := NB199_205.out; obtain ⟨hcz24_0, hcz24_1, hfz24_0, hfz24_1⟩ := cq2_ BK205.out; obtain ⟨Ao25, co25, eo25⟩ := Kd.R_slice HO202.out; subst eo25) | ((with_reducible refine gate_callee (f := 48) rfl ?_); refine goesL_ (some 44) rfl rfl Tryd.func48 (by kernel_rfl) rfl #[.slice Ao25 t200.length co25] rfl ga_ ?_; (with_reducible refine (printer_Print.calls k _ _ t200 t206 t207 _ ?side1 ?side2 ?side3 A9.out).mono ?_); (case side1 => exact Gl.below hG (bl2_ HB.out GE199.out GE205.out)); (case side2 => refine (Kd.R_reads' (e := 41) (base := w.heap.size) (ok := fun k_ => True) (n := t200.length) (c := co25) ?_).2.2; exact (by (with_reducible repeat (first | apply Kd.R_alloc | apply Kd.R_drewN | apply Kd.R_drew)); exact (Kd.R_mono (Kd.R_far (p := ⟨gb205, 1, none⟩) (Kd.R_far (p := ⟨gb205, 0, none⟩) (Kd.R_types HO202.out BK205.out (by decide)) (fun _ hk => hk.2) (.int .i64 t203)) (fun _ hk => hk.2) (.int .i64 t204)) (fun _ h_ => h_.1)))); (case side3 => exact (Kd.R_reads' HO202.out).2.1); rintro e w26 ⟨rfl, hb⟩; refine ⟨_, rfl, ?_⟩; refine cut4_ (Kd.R_below (by (with_reducible repeat (first | apply Kd.R_alloc | apply Kd.R_drewN | apply Kd.R_drew)); exact (Kd.R_mono (Kd.R_far (p := ⟨gb205, 1, none⟩) (Kd.R_far (p := ⟨gb205, 0, none⟩) (Kd.R_types HO202.out BK205.out (by decide)) (fun _ hk => hk.2) (.int .i64 t203)) (fun _ hk => hk.2) (.int .i64 t204)) (fun _ h_ => h_.1))) hb) (blk_below (g := gb199) (o := .cells #[.int .i64 t197, .int .i64 t198] 26 (0, 0)) (far2_ (bk_ BK199.out) NB199_205.out) hb) (blk_below (g := gb205) (o := .cells #[.int .i64 t203, .int .i64 t204] 26 (0, 0)) (put2_ (bk_ BK205.out)) hb) (below_step (bl2_ HB.out GE199.out GE205.out) hb) ?_; clear HO202 BK199 BK205 HB; intro HO202 BK199 BK205 HB; (try clear hb); (try clear hb2); (try clear hk); (try clear hi)) | ((with_reducible refine gate_callee (f := 49) rfl ?_); refine goesL_ (some 49) rfl rfl Tryd.func49 (by kernel_rfl) rfl #[.string t196] rfl ga_ ?_; (with_reducible refine (printer_Normalize.calls k t196 t208 t209 t210 _ ?side1 A10.out).mono ?_); (case side1 => exact Gl.below hG (bl2_ HB.out GE199.out GE205.out)); rintro e w27 ⟨rfl, hb⟩; refine ⟨_, rfl, ?_⟩; refine cut4_ (Kd.R_below (rR_ HO202.out) hb) (bb_ BK199.out hb) (bb_ BK205.out hb) (below_step (bl2_ HB.out GE199.out GE205.out) hb) ?_; clear HO202 BK199 BK205 HB; intro HO202 BK199 BK205 HB; (try clear hb); (try clear hb2); (try clear hk); (try clear hi)) | ((with_reducible refine gate_dst (N := 10) rfl ?_); refine bx_ (N := 10) (cs := #[.int .i64 0, .int .i64 0]) (t := 26) ?_; intro gb211 hg w28 hbox hb; refine cut11_ (Kd.R_below (rR_ HO202.out) hb) (bb_ BK199.out hb) (bb_ BK205.out hb) (below_step (bl2_ HB.out GE199.out GE205.out) hb) (hbox) (bz_ (w := w) hg (bl2_ HB.out GE199.out GE205.out)) (bz_ (w := w) hg (bl2_ HB.out GE199.out GE205.out)) (nl_ hg BK199.out) (ng_ hg BK199.out) (nl_ hg BK205.out) (ng_ hg BK205.out) ?_; clear HO202 BK199 BK205 HB; intro HO202 BK199 BK205 HB BK211 GW211 GE211 NB199_211 NB211_199 NB205_211 NB211_205; clear hb hbox hg; have hnb29 := NB211_199.out; have hnc29 := NB199_211.out; have hnb30 := NB211_205.out; have hnc30 := NB205_211.out; obtain ⟨hcz31_0, hcz31_1, hfz31_0, hfz31_1⟩ := cq2_ BK211.out; obtain ⟨hcz32_0, hcz32_1, hfz32_0, hfz32_1⟩ := cq2_ BK199.out) | (go_at_call 50; (with_reducible refine (printer_Equal.calls k a0 t196 t212 _ A16.out).mono ?_); rintro e w33 ⟨rfl, hb⟩; refine cut5_ (Kd.R_below (by (with_reducible repeat (first | apply Kd.R_alloc | apply Kd.R_drewN | apply Kd.R_drew)); exact (Kd.R_mono (Kd.R_far (p := ⟨gb211, 1, none⟩) (Kd.R_far (p := ⟨gb211, 0, none⟩) (Kd.R_types HO202.out BK211.out (by decide)) (fun _ hk => hk.2) (.int .i64 t209)) (fun _ hk => hk.2) (.int .i64 t210)) (fun _ h_ => h_.1))) hb) (blk_below (g := gb199) (o := .cells #[.int .i64 t197, .int .i64 t198] 26 (0, 0)) (far2_ (bk_ BK199.out) NB199_211.out) hb) (blk_below (g := gb205) (o := .cells #[.int .i64 t203, .int .i64 t204] 26 (0, 0)) (far2_ (bk_ BK205.out) NB205_211.out) hb) (blk_below (g := gb211) (o := .cells #[.int .i64 t209, .int .i64 t210] 26 (0, 0)) (put2_ (bk_ BK211.out)) hb) (below_step (bl3_ HB.out GE199.out GE205.out GE211.out) hb) ?_; clear HO202 BK199 BK205 BK211 HB; intro HO202 BK199 BK205 BK211 HB; (try clear hb); (try clear hb2); (try clear hk); (try clear hi)))
         go_ret
         exact ⟨er_, bl3_ HB.out GE199.out GE205.out GE211.out⟩
        ·
         rw [if_neg c15] at H
         exact absurd H (by simp)
       ·
        rw [if_neg c14] at H
        exact absurd H (by simp)
      ·
       rw [if_neg c13] at H
       exact absurd H (by simp)
     ·
      rw [if_neg c12] at H
      exact absurd H (by simp)
    ·
     rw [if_neg c11] at H
     exact absurd H (by simp)
   ·
    rw [if_neg c8] at H
    have c8b0 := beq_eq_false_iff_ne.mpr c8
    have c8b1 := bne_iff_ne.mpr c8
    by_cases c34 : (t197 == t203 && (t198 == t204)) = true
    ·
     rw [if_pos c34] at H
     have c34b0 : (t197 == t203 && (t198 == t204)) = true := c34
     (try (have c34b1 : decide (t197 = t203 && (t198 == t204)) = true := by simpa using c34))
     (try (have c34b2 : (t197 == t203 && (t198 == t204)) = true := by simpa using c34))
     clear c34
     by_cases c35 : t196.toList = ([] : List UInt8)
     ·
      rw [if_pos c35] at H
      have c35b0 := beq_iff_eq.mpr c35
      have c35b1 := bne_eq_false_iff_eq.mpr c35
      clear c35
      replace H := Option.bind_eq_some_iff.mp H
      obtain ⟨t213, A360, H⟩ := H
      (try dsimp only at H)
      have A36 := Aside0.mk A360
      clear A360
      obtain rfl := Option.some.inj H
      go_enter Tryd.func20, Tryd.ntmps20
      go_wp2_with (first | ((with_reducible refine gate_callee (f := 47) rfl ?_); refine goesL_ (some 11) rfl rfl Tryd.func47 (by kernel_rfl) rfl #[] rfl ga_ ?_; (with_reducible refine (salchowlaw11_awake.calls k  true _ ?side1 A2.out).mono ?_); (case side1 => exact Gl.below hG (bl_ HB.out)); rintro e w37 ⟨rfl, hb⟩; refine ⟨_, rfl, ?_⟩; refine cut1_ (below_step (bl_ HB.out) hb) ?_; clear HB; intro HB; (try clear hb); (try clear hb2); (try clear hk); (try clear hi)) | ((with_reducible refine gate_callee (f := 49) rfl ?_); refine goesL_ (some 18) rfl rfl Tryd.func49 (by kernel_rfl) rfl #[.string a0] rfl ga_ ?_; (with_reducible refine (printer_Normalize.calls k a0 t196 t197 t198 _ ?side1 A6.out).mono ?_); (case side1 => exact Gl.below hG (bl_ HB.out)); rintro e w38 ⟨rfl, hb⟩; refine ⟨_, rfl, ?_⟩; refine cut1_ (below_step (bl_ HB.out) hb) ?_; clear HB; intro HB; (try clear hb); (try clear hb2); (try clear hk); (try clear hi)) | ((with_reducible refine gate_dst (N := 4) rfl ?_); refine bx_ (N := 4) (cs := #[.int .i64 0, .int .i64 0]) (t := 26) ?_; intro gb199 hg w39 hbox hb; refine cut4_ (below_step (bl_ HB.out) hb) (hbox) (bz_ (w := w) hg (bl_ HB.out)) (bz_ (w := w) hg (bl_ HB.out)) ?_; clear HB; intro HB BK199 GW199 GE199; clear hb hbox hg; obtain ⟨hcz40_0, hcz40_1, hfz40_0, hfz40_1⟩ := cq2_ BK199.out) | ((with_reducible refine gate_callee (f := 22) rfl ?_); refine goesL_ (some 23) rfl rfl Tryd.func22 (by kernel_rfl) rfl #[.string a0] rfl ga_ ?_; (with_reducible refine (parser_Parse.calls k a0 t200 t203 t204 _ A7.out).mono ?_); rintro e w41 ⟨v201, rfl, ho0, hb⟩; refine ⟨_, rfl, ?_⟩; refine cut3_ (Kd.R_lower ho0 (below_size (bl1_ HB.out GE199.out))) (blk_below (g := gb199) (o := .cells #[.int .i64 t197, .int .i64 t198] 26 (0, 0)) (put2_ (bk_ BK199.out)) hb) (below_step (bl1_ HB.out GE199.out) hb) ?_; clear BK199 HB; intro HO202 BK199 HB; (try clear hb); (try clear hb2); (try clear hk); (try clear hi); (try clear ho0)) | ((with_reducible refine gate_dst (N := 6) rfl ?_); refine bx_ (N := 6) (cs := #[.int .i64 0, .int .i64 0]) (t := 26) ?_; intro gb205 hg w42 hbox hb; refine cut8_ (Kd.R_below (rR_ HO202.out) hb) (bb_ BK199.out hb) (below_step (bl1_ HB.out GE199.out) hb) (hbox) (bz_ (w := w) hg (bl1_ HB.out GE199.out)) (bz_ (w := w) hg (bl1_ HB.out GE199.out)) (nl_ hg BK199.out) (ng_ hg BK199.out) ?_; clear HO202 BK199 HB; intro HO202 BK199 HB BK205 GW205 GE205 NB199_205 NB205_199; clear hb hbox hg; have hnb43 := NB205_199.out; have hnc43 := NB199_205.out; obtain ⟨hcz44_0, hcz44_1, hfz44_0, hfz44_1⟩ := cq2_ BK205.out; obtain ⟨hcz45_0, hcz45_1, hfz45_0, hfz45_1⟩ := cq2_ BK199.out) | (go_at_call 50; (with_reducible refine (printer_Equal.calls k a0 a0 t213 _ A36.out).mono ?_); rintro e w46 ⟨rfl, hb⟩; refine cut4_ (Kd.R_below (by (with_reducible repeat (first | apply Kd.R_alloc | apply Kd.R_drewN | apply Kd.R_drew)); exact (Kd.R_mono (Kd.R_far (p := ⟨gb205, 1, none⟩) (Kd.R_far (p := ⟨gb205, 0, none⟩) (Kd.R_types HO202.out BK205.out (by decide)) (fun _ hk => hk.2) (.int .i64 t203)) (fun _ hk => hk.2) (.int .i64 t204)) (fun _ h_ => h_.1))) hb) (blk_below (g := gb199) (o := .cells #[.int .i64 t197, .int .i64 t198] 26 (0, 0)) (far2_ (bk_ BK199.out) NB199_205.out) hb) (blk_below (g := gb205) (o := .cells #[.int .i64 t203, .int .i64 t204] 26 (0, 0)) (put2_ (bk_ BK205.out)) hb) (below_step (bl2_ HB.out GE199.out GE205.out) hb) ?_; clear HO202 BK199 BK205 HB; intro HO202 BK199 BK205 HB; (try clear hb); (try clear hb2); (try clear hk); (try clear hi)))
      go_ret
      exact ⟨er_, bl2_ HB.out GE199.out GE205.out⟩
     ·
      rw [if_neg c35] at H
      exact absurd H (by simp)
    ·
     rw [if_neg c34] at H
     exact absurd H (by simp)
 ·
  replace c3 := Bool.eq_false_iff.mpr c3
  subst c3
  have H1 : (none) = some r := by rw [if_neg (show ¬ (false = true) by decide)] at H; exact H
  clear H
  have H := H1
  clear H1
  exact absurd H (by simp)
/-- THE ONE PURE STATEMENT of salchowlaw11_PrinterNormalizes: yours. -/
def salchowlaw11_PrinterNormalizes.Pure : Prop := ∀ (a0 : ByteArray), a0.size ≤ 140737488351232 → ∃ k, salchowlaw11_PrinterNormalizes.f k a0 = some true
theorem salchowlaw11_PrinterNormalizes.walk (P : salchowlaw11_PrinterNormalizes.Pure) (a0 : ByteArray) (w : World) (hG : Gl w) (w0 : a0.size ≤ 140737488351232) :
  Calls Tryd.prog 20 #[.string a0] w fun e w' => e = .returned (.bool true) ∧ Below w.heap.size w w' := by
 obtain ⟨k, h⟩ := P a0 w0
 refine (salchowlaw11_PrinterNormalizes.calls k a0 true w hG h).mono ?_
 rintro e w' ⟨rfl, hd⟩
 exact ⟨rfl, hd⟩
end Go.Proofs.YtkifdadhojbohaaDoor.Pr
namespace Go.Proofs.YtkifdadhojbohaaDoor.Pu
open Go.RowKit Go.Proofs.YtkifdadhojbohaaDoor Go.Proofs.YtkifdadhojbohaaDoor.Pr Go.Proofs.YtkifdadhojbohaaDoorW.PrintWords Go.Proofs.YtkifdadhojbohaaDoorW.PrintLast Go.Proofs.YtkifdadhojbohaaDoorW.PrintMore
theorem Normalize_f (s : ByteArray) (hs : s.size ≤ 65536) {y : List S41 × Int × Int} (hy : PA s y) (p : ByteArray × Int) (hp : y.2.1 = 0 → Ev (fun k => printer_Print.f k y.1) p) :
    Ev (fun k => printer_Normalize.f k s) (if y.2.1 = 0 then (if p.2 = 0 then (p.1, 0, 0) else (⟨#[]⟩, p.2, 65536)) else (⟨#[]⟩, y.2.1, y.2.2)) := by
  unfold printer_Normalize.f
  refine Ev.bind (Parse_f s hs hy) ?_
  by_cases hc : y.2.1 = 0
  · refine Ev.ifp hc (Ev.cast (if_pos hc).symm (Ev.bind (hp hc) ?_))
    by_cases h2 : p.2 = 0
    · exact Ev.ifp h2 (Ev.cast (if_pos h2).symm (Ev.now _))
    · exact Ev.ifn h2 (Ev.cast (if_neg h2).symm (Ev.now _))
  · exact Ev.ifn hc (Ev.cast (if_neg hc).symm (Ev.now _))
theorem printerNormalizes : salchowlaw11_PrinterNormalizes.Pure := by
  intro s _
  apply Ev.rounds
  unfold salchowlaw11_PrinterNormalizes.f
  refine Ev.bind awake11_f (Ev.ifp rfl ?_)
  by_cases hs : (s.size : Int) > 1500
  · exact Ev.ifp hs (Ev.now _)
  · refine Ev.ifn hs ?_
    obtain ⟨y, hy⟩ := PA.ex s
    by_cases hc : y.2.1 = 0
    · obtain ⟨cs, c, a⟩ := y
      obtain rfl : c = 0 := hc
      obtain ⟨us, k1, k2, k3_, k4, k5, k6, k7, k8, k9, rfl⟩ := hy.facts (by omega)
      have hfit := src_fits (by omega) hy
      have hpr : printA cs = (str (srcL 0 cs), 0) := by
        unfold printA
        rw [if_pos k8, if_neg (by omega)]
      have hp := Print_f cs (by omega) k7
      rw [hpr] at hp
      have hn := Normalize_f s (by omega) hy _ (fun _ => hp)
      rw [if_pos rfl, if_pos rfl] at hn
      obtain ⟨ds, z1, z2⟩ := PA_src cs k6 k4 (by omega)
      have hlen : (str (srcL 0 cs)).size ≤ 65536 := by rw [size_str]; omega
      obtain ⟨vs, j1, j2, j3, j4, j5, j6, j7, j8, j9, _⟩ := z2.facts (by omega)
      have hpr2 : printA ds = (str (srcL 0 cs), 0) := by
        unfold printA
        rw [if_pos j8, src_same z1, if_neg (by omega)]
      have hp2 := Print_f ds (by omega) j7
      rw [hpr2] at hp2
      have hn2 := Normalize_f _ hlen z2 _ (fun _ => hp2)
      rw [if_pos rfl, if_pos rfl] at hn2
      have heq : Ev (fun k => printer_Equal.f k s (str (srcL 0 cs))) true := by
        unfold printer_Equal.f
        exact Ev.bind (Parse_f s (by omega) hy) (Ev.bind (Parse_f _ hlen z2) (Ev.ifp rfl (Ev.ifp rfl (Ev.bind (Same_f z1.symm) (Ev.now _)))))
      exact Ev.bind hn (Ev.bind (Parse_f s (by omega) hy) (Ev.ifp rfl (Ev.bind hp (Ev.bind hn2 (Ev.ifp rfl (Ev.ifp rfl (Ev.ifp rfl (Ev.ifp rfl (Ev.ifp rfl (Ev.bind heq (Ev.now _)))))))))))
    · have hn := Normalize_f s (by omega) hy (⟨#[]⟩, 0) (fun h => absurd h hc)
      rw [if_neg hc] at hn
      have heq : Ev (fun k => printer_Equal.f k s s) false := by
        unfold printer_Equal.f
        exact Ev.bind (Parse_f s (by omega) hy) (Ev.bind (Parse_f s (by omega) hy) (Ev.ifn hc (Ev.now _)))
      refine Ev.bind hn (Ev.bind (Parse_f s (by omega) hy) (Ev.ifn hc (Ev.ifp (by simp) (Ev.ifp ?_ (Ev.bind heq (Ev.now _))))))
      rw [toList_nil]; rfl
end Go.Proofs.YtkifdadhojbohaaDoor.Pu
namespace Go.Proofs.YtkifdadhojbohaaDoor.printerNormalizes
open Go.ChangeShapes Go.WideShapes Go.ChangeAt Go.RowKit Rk
open Go.ChangeMaps (open_string shut_string)
theorem c09 : (Rows.printerNormalizesRow.inPlace == Tryd.prog.inPlace 20) = true := by kernel_rfl
theorem c10 : (Rows.printerNormalizesRow.unfollowed == Tryd.prog.unfollowed 20) = true := by kernel_rfl
theorem c11 : (Rows.printerNormalizesRow.recurses == Tryd.prog.recurses 20) = true := by kernel_rfl
theorem c12 : (Rows.printerNormalizesRow.named == Tryd.prog.varsNamed 20) = true := by kernel_rfl
theorem facts : joinedFacts Tryd.prog 20 Tryd.f20 Rows.printerNormalizesSpec Rows.printerNormalizesRow = true :=
  facts_of _ _ _ _ _ (by kernel_rfl) out_ rowed_ (by kernel_rfl) (by kernel_rfl) rfl (by kernel_rfl) rfl (by kernel_rfl) c09 c10 c11 c12 (by kernel_rfl) (by kernel_rfl) (by kernel_rfl) (by kernel_rfl) (by kernel_rfl)
    (by kernel_rfl) (by kernel_rfl) (by kernel_rfl) (by kernel_rfl) (by kernel_rfl) (by kernel_rfl) heard_ enter_ (by kernel_rfl) (by kernel_rfl) (by kernel_rfl) (by kernel_rfl) (by kernel_rfl) (by kernel_rfl)
theorem goes : false = Rows.printerNormalizesRow.goesBy Tryd.prog := by kernel_rfl
set_option maxRecDepth 100000 in
theorem lifted (os : Os) (started : os.Started) (H : Type) (enc : TypeId × Value → H) :
    ReturnsInHanded {} Tryd.checked os 20 .any (fun w args => (Rows.printerNormalizesSpec.pre enc Tryd.prog Tryd.f20 [] false w args ∧ laidMetH Tryd.prog laidB w) ∧ sizedMet enc Tryd.prog Tryd.f20 (OpenSpec.ofChange Rows.printerNormalizesSpec) false w args)
      (Rows.printerNormalizesSpec.post enc Tryd.prog Tryd.f20 false true false false) := by
  refine returnsInHanded_of_change_and (C := Tryd.checked) (X := fun w _ => laidMetH Tryd.prog laidB w) (fun _ _ _ hh h => h.of_heap hh) own started (by kernel_rfl) Tryd.func20
    (ChangeSpec.witness_shaped (enc := enc) (C := Tryd.checked) (os := os) (X := fun w _ => laidMetH Tryd.prog laidB w) false (wB os) #[.string ByteArray.empty] 8 (World.laidAll_os _ _ _)
      (World.shaped_of_ZipB (by kernel_rfl) (by kernel_rfl)) (by kernel_rfl) (by kernel_rfl) (by kernel_rfl) (met_B os _)) ?_
  intro W base args ds gs before hval0 hW _ hsz0 hL _
  have hsz : (DataW.weightsEach Tryd.prog (Tryd.f20.params.toList ++ Rows.printerNormalizesSpec.plain.varTypes Tryd.prog) (ds ++ gs)).all (· ≤ reachBytes) = true := hsz0
  have hval : ∀ (j : Nat) t v, Tryd.f20.params[j]? = some t → args[j]? = some v → Value.okWide Tryd.prog W .any base t v := hval0
  have hW' := hW
  obtain ⟨p, q, hA0, hV, rfl, _, _⟩ := hW
  have hA : DataW.TrodAll enc Tryd.prog W 0 (fun _ => true) true Tryd.f20.params.toList args.toList ds p := hA0
  rw [Tryd.params20] at hA hval hsz
  obtain ⟨v0, vs0, d0, ds0, p0, q0, hargs, rfl, rfl, h0, r0⟩ := trodAll_cons hA
  obtain ⟨rfl, rfl, rfl⟩ := trodAll_nil r0
  obtain rfl : args = #[v0] := by cases args; simp_all
  obtain ⟨rfl, rfl⟩ := trodVars_none hV
  obtain ⟨a0, rfl, rfl, rfl, y0⟩ := open_string Tryd.underlying9 (hval 0 9 v0 rfl rfl) h0
  have w0 : a0.size ≤ 140737488351232 := by
    have z := sized_string hsz (j := 0) (t := 9) rfl rfl
    rw [Array.length_toList] at z
    exact z
  clear hA0 hval0 hsz0 hsz
  refine (Pr.salchowlaw11_PrinterNormalizes.walk Pu.printerNormalizes a0 W (gl_B hL) w0).mono fun e W' ⟨he, bel⟩ => ?_
  subst he
  exact ⟨_, rfl, _, _, _, [], _, [], hW', trodAll_mk1 (shut_bool Tryd.underlying4 _), (trodAll_cons_mk (shut_string Tryd.underlying9 y0) trodAll_mk0), rfl, bel.frame _, fun h => by cases h⟩
theorem over : Rows.printerNormalizesRow.holds Tryd.pinned (OpenSpec.ofChange Rows.printerNormalizesSpec) :=
  OpenClaim.holds_of_wide 20 Tryd.f20 rfl rfl rfl rfl rfl rfl rfl ⟨rfl, rfl, rfl, rfl, rfl⟩ rfl rfl rfl rfl rfl (by kernel_rfl) Tryd.func20 facts
    (of_decide_eq_true (by kernel_rfl)) (by unfold Func.isWrapper; first | (rw [if_pos (by decide +kernel)]; kernel_rfl) | (rw [if_neg (by decide +kernel)]; exact ⟨rfl, rfl⟩))
    (fun os started H enc _ => lifted os started H enc)
theorem card : Rows.PrinterNormalizesCardSaid :=
  Claim7.holds_tied_plain_at .later [] [.data, .data, .data, .data, .sentinel, .sentinel, .pinned] true (true, "74d2011260c70b611c86c4d3b7f5d11cc5fefff18c715f175ff3522b41f9dd0c") true
    over (fun _ h => by cases h) (by kernel_rfl) (fun _ h => by cases h) printerNormalizes_row_tie rfl ⟨rfl, rfl⟩ mainIs_ rfl
    (fun f fn hf hfn => by
      obtain rfl : f = 20 := Option.some.inj ((show Tryd.prog.funcNamed "salchow/salchowlaw11.PrinterNormalizes" = some 20 by kernel_rfl).symm.trans hf) |>.symm
      obtain rfl : fn = Tryd.f20 := (Option.some.inj (Tryd.func20.symm.trans hfn)).symm
      exact ⟨looks_, fun j t ht => by
        rw [Tryd.params20] at ht
        have hm : t ∈ [9] := by simpa using Array.mem_of_getElem? ht
        have hall : ([9].all fun u => !Tryd.prog.wantsStandIn u) = true := by kernel_rfl
        exact (show Tryd.prog.wantsStandIn t = false by simpa using List.all_eq_true.1 hall t hm)⟩)
    goes
#print axioms card
end Go.Proofs.YtkifdadhojbohaaDoor.printerNormalizes
