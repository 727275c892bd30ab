/- Joined out of the texts of this proof that bear the names PrF19 PyC1 Rt RowPrinterReads: what each shows stands over it there. -/
import Derived.Test.YtkifdadhojbohaaDoorUk1
import Derived.Test.YtkifdadhojbohaaDoorUo1
import Derived.Test.YtkifdadhojbohaaDoorUv1
import Derived.Test.YtkifdadhojbohaaDoorUp1
import Derived.Test.YtkifdadhojbohaaDoorUs1
import Derived.Test.YtkifdadhojbohaaDoorUr1
import Derived.Deep.Slices
import Derived.DataReads
import Derived.DataElems
import Derived.Lib.SmallJoins
import Derived.ChangeArms
import Derived.Test.YtkifdadhojbohaaDoorCards
import Derived.Test.YtkifdadhojbohaaDoorTie
import Derived.WalkKit
import Derived.OpenShut
import Derived.ShutString
import Derived.ChangeOld
import Derived.SizedLaws
import Derived.SevenTiedAt
import Derived.Handed
import Derived.LaidLaws
import Derived.Carry
set_option linter.unusedVariables false
set_option linter.unusedSimpArgs false
namespace Go.Proofs.YtkifdadhojbohaaDoor.Pr
open Go.Proofs.YtkifdadhojbohaaDoor
open Go.RowKit Go.Proofs.YtkifdadhojbohaaDoorW.PrintWords Go.Proofs.YtkifdadhojbohaaDoorW.PrintLast Go.Proofs.YtkifdadhojbohaaDoorW.PrintMore
attribute [local go_sem] max2_int min2_int max_two min_two max_three min_three max_four min_four   -- for this text's walks alone
set_option linter.unusedVariables false
set_option linter.unusedSimpArgs false
attribute [local go_sem high] eqA26
def salchowlaw11_PrinterReads.f (k : Nat) (l0 : List (S41)) : Option (Bool) := (salchowlaw11_awake.f k).bind fun t168 => (if t168 = true then ((salchowref10_Small.f k l0 300).bind fun t169 => (if t169 = true then ((printer_Print.f k l0).bind fun bt170 => (if bt170.2 = 0 then ((parser_Parse.f k bt170.1).bind fun bt172 => ((printer_Print.f k bt172.1).bind fun bt178 => (if (bt172.2.1 == 0 && (bt172.2.2 == 0)) = true then ((pSame.f k bt172.1 l0).bind fun t180 => (if t180 = true then (if bt178.2 = 0 then (some (bt178.1.toList == bt170.1.toList)) else (none)) else (none))) else (none)))) else ((parser_Check.f k l0).bind fun t181 => (if bt170.2 = t181 then (some true) else (some (bt170.2 == 6)))))) else (some true))) else (none))
theorem salchowlaw11_PrinterReads.mono : ∀ a0 k, LeO (salchowlaw11_PrinterReads.f k a0) (salchowlaw11_PrinterReads.f (k + 1) a0) := by
 intro a0 k
 unfold salchowlaw11_PrinterReads.f
 repeat' first
   | (with_reducible exact pSame.mono _ _ _)
   | (with_reducible exact parser_Check.mono _ _)
   | (with_reducible exact parser_Parse.mono _ _)
   | (with_reducible exact printer_Print.mono _ _)
   | (with_reducible exact salchowlaw11_awake.mono _)
   | (with_reducible exact salchowref10_Small.mono _ _ _)
   | (with_reducible exact LeO.refl _)
   | (with_reducible exact LeO.none _)
   | (with_reducible refine LeO.ite ?_ ?_)
   | (with_reducible refine LeO.bind ?_ (fun _ => ?_))
   | exact pSame.mono _ _ _
   | exact parser_Check.mono _ _
   | exact parser_Parse.mono _ _
   | exact printer_Print.mono _ _
   | exact salchowlaw11_awake.mono _
   | exact salchowref10_Small.mono _ _ _
   | exact LeO.none _
   | refine LeO.ite ?_ ?_
   | refine LeO.bind ?_ (fun _ => ?_)
set_option maxHeartbeats 8000000 in
set_option maxRecDepth 100000 in
theorem salchowlaw11_PrinterReads.calls (k : Nat) (A0 : Option Addr) (c0 : Nat) (l0 : List (S41)) (r : Bool) (w : World) (hG : Gl w) (hr0 : Kd.C k41 w A0 l0.length l0) (hc0 : l0.length ≤ c0) (h : salchowlaw11_PrinterReads.f k l0 = some r) :
  Calls Tryd.prog 19 #[.slice A0 l0.length c0] w fun e w' => e = .returned (.bool r) ∧ Below w.heap.size w w' := by
 have hu26 := Tryd.underlying26
 have HR0 := Aside0.mk hr0
 have HC0 := Aside0.mk hc0
 clear hr0 hc0
 have HB := Aside0.mk (Below.refl w.heap.size w)
 have H : ((salchowlaw11_awake.f k).bind fun t168 => (if t168 = true then ((salchowref10_Small.f k l0 300).bind fun t169 => (if t169 = true then ((printer_Print.f k l0).bind fun bt170 => (if bt170.2 = 0 then ((parser_Parse.f k bt170.1).bind fun bt172 => ((printer_Print.f k bt172.1).bind fun bt178 => (if (bt172.2.1 == 0 && (bt172.2.2 == 0)) = true then ((pSame.f k bt172.1 l0).bind fun t180 => (if t180 = true then (if bt178.2 = 0 then (some (bt178.1.toList == bt170.1.toList)) else (none)) else (none))) else (none)))) else ((parser_Check.f k l0).bind fun t181 => (if bt170.2 = t181 then (some true) else (some (bt170.2 == 6)))))) else (some true))) else (none))) = some r := h
 clear h
 replace H := Option.bind_eq_some_iff.mp H
 obtain ⟨t168, A20, H⟩ := H
 (try dsimp only at H)
 have A2 := Aside0.mk A20
 clear A20
 by_cases c3 : t168 = true
 ·
  subst c3
  have H1 : ((salchowref10_Small.f k l0 300).bind fun t169 => (if t169 = true then ((printer_Print.f k l0).bind fun bt170 => (if bt170.2 = 0 then ((parser_Parse.f k bt170.1).bind fun bt172 => ((printer_Print.f k bt172.1).bind fun bt178 => (if (bt172.2.1 == 0 && (bt172.2.2 == 0)) = true then ((pSame.f k bt172.1 l0).bind fun t180 => (if t180 = true then (if bt178.2 = 0 then (some (bt178.1.toList == bt170.1.toList)) else (none)) else (none))) else (none)))) else ((parser_Check.f k l0).bind fun t181 => (if bt170.2 = t181 then (some true) else (some (bt170.2 == 6)))))) else (some true))) = some r := by rw [if_pos rfl] at H; exact H
  clear H
  have H := H1
  clear H1
  replace H := Option.bind_eq_some_iff.mp H
  obtain ⟨t169, A40, H⟩ := H
  (try dsimp only at H)
  have A4 := Aside0.mk A40
  clear A40
  by_cases c5 : t169 = true
  ·
   subst c5
   have H1 : ((printer_Print.f k l0).bind fun bt170 => (if bt170.2 = 0 then ((parser_Parse.f k bt170.1).bind fun bt172 => ((printer_Print.f k bt172.1).bind fun bt178 => (if (bt172.2.1 == 0 && (bt172.2.2 == 0)) = true then ((pSame.f k bt172.1 l0).bind fun t180 => (if t180 = true then (if bt178.2 = 0 then (some (bt178.1.toList == bt170.1.toList)) else (none)) else (none))) else (none)))) else ((parser_Check.f k l0).bind fun t181 => (if bt170.2 = t181 then (some true) else (some (bt170.2 == 6)))))) = some r := by rw [if_pos rfl] at H; exact H
   clear H
   have H := H1
   clear H1
   replace H := Option.bind_eq_some_iff.mp H
   obtain ⟨⟨t170, t171⟩, A60, H⟩ := H
   (try dsimp only at H)
   have A6 := Aside0.mk A60
   clear A60
   by_cases c7 : t171 = 0
   ·
    rw [if_pos c7] at H
    have c7b0 := beq_iff_eq.mpr c7
    have c7b1 := bne_eq_false_iff_eq.mpr c7
    clear c7
    replace H := Option.bind_eq_some_iff.mp H
    obtain ⟨⟨t172, t175, t176⟩, A80, H⟩ := H
    (try dsimp only at H)
    have A8 := Aside0.mk A80
    clear A80
    replace H := Option.bind_eq_some_iff.mp H
    obtain ⟨⟨t178, t179⟩, A90, H⟩ := H
    (try dsimp only at H)
    have A9 := Aside0.mk A90
    clear A90
    by_cases c10 : (t175 == 0 && (t176 == 0)) = true
    ·
     rw [if_pos c10] at H
     have c10b0 : (t175 == 0 && (t176 == 0)) = true := c10
     (try (have c10b1 : decide (t175 = 0 && (t176 == 0)) = true := by simpa using c10))
     (try (have c10b2 : (t175 == 0 && (t176 == 0)) = true := by simpa using c10))
     clear c10
     replace H := Option.bind_eq_some_iff.mp H
     obtain ⟨t180, A110, H⟩ := H
     (try dsimp only at H)
     have A11 := Aside0.mk A110
     clear A110
     by_cases c12 : t180 = true
     ·
      subst c12
      have H1 : (if t179 = 0 then (some (t178.toList == t170.toList)) else (none)) = some r := by rw [if_pos rfl] at H; exact H
      clear H
      have H := H1
      clear H1
      by_cases c13 : t179 = 0
      ·
       rw [if_pos c13] at H
       have c13b0 := beq_iff_eq.mpr c13
       have c13b1 := bne_eq_false_iff_eq.mpr c13
       clear c13
       obtain rfl := Option.some.inj H
       go_enter Tryd.func19, Tryd.ntmps19
       go_wp2_with (first | ((with_reducible refine gate_callee (f := 47) rfl ?_); refine goesL_ (some 9) rfl rfl Tryd.func47 (by kernel_rfl) rfl #[] rfl ga_ ?_; (with_reducible refine (salchowlaw11_awake.calls k  true _ ?side1 A2.out).mono ?_); (case side1 => exact Gl.below hG (bl_ HB.out)); rintro e w14 ⟨rfl, hb⟩; refine ⟨_, rfl, ?_⟩; refine cut1_ (below_step (bl_ HB.out) hb) ?_; clear HB; intro HB; (try clear hb); (try clear hb2); (try clear hk); (try clear hi)) | ((with_reducible refine gate_callee (f := 45) rfl ?_); refine goesL_ (some 12) rfl rfl Tryd.func45 (by kernel_rfl) rfl #[.slice A0 l0.length c0, .int .i64 300] rfl ga_ ?_; (with_reducible refine (salchowref10_Small.calls k _ _ l0 300 true _ ?side1 ?side2 A4.out).mono ?_); (case side1 => repeat (first | exact (Kd.C_below HR0.out HB.out) | (with_reducible refine Kd.C_alloc ?_ _) | (with_reducible refine Kd.C_drewN ?_ _) | (with_reducible refine Kd.C_drew ?_))); (case side2 => exact HC0.out); rintro e w' ⟨rfl, ⟨nd, rfl⟩⟩; refine ⟨_, rfl, ?_⟩; (try (rw [drewN_self w14]; generalize hq_ : World.drewN w14 _ = w14; have n0_ : Aside0 (Below w.heap.size w w14) := ⟨by rw [← hq_]; exact (bl_ HB.out)⟩; clear HB hq_; have HB := n0_; clear n0_))) | ((with_reducible refine gate_callee (f := 48) rfl ?_); refine goesL_ (some 16) rfl rfl Tryd.func48 (by kernel_rfl) rfl #[.slice A0 l0.length c0] rfl ga_ ?_; (with_reducible refine (printer_Print.calls k _ _ l0 t170 t171 _ ?side1 ?side2 ?side3 A6.out).mono ?_); (case side1 => exact Gl.below hG (bl_ HB.out)); (case side2 => repeat (first | exact (Kd.C_below HR0.out HB.out) | (with_reducible refine Kd.C_alloc ?_ _) | (with_reducible refine Kd.C_drewN ?_ _) | (with_reducible refine Kd.C_drew ?_))); (case side3 => exact HC0.out); rintro e w15 ⟨rfl, hb⟩; refine ⟨_, rfl, ?_⟩; refine cut1_ (below_step (bl_ HB.out) hb) ?_; clear HB; intro HB; (try clear hb); (try clear hb2); (try clear hk); (try clear hi)) | ((with_reducible refine gate_callee (f := 22) rfl ?_); refine goesL_ (some 31) rfl rfl Tryd.func22 (by kernel_rfl) rfl #[.string t170] rfl ga_ ?_; (with_reducible refine (parser_Parse.calls k t170 t172 t175 t176 _ A8.out).mono ?_); rintro e w16 ⟨v173, rfl, ho0, hb⟩; refine ⟨_, rfl, ?_⟩; refine cut2_ (Kd.R_lower ho0 (below_size (bl_ HB.out))) (below_step (bl_ HB.out) hb) ?_; clear HB; intro HO174 HB; (try clear hb); (try clear hb2); (try clear hk); (try clear hi); (try clear ho0)) | ((with_reducible refine gate_dst (N := 6) rfl ?_); refine bx_ (N := 6) (cs := #[.int .i64 0, .int .i64 0]) (t := 26) ?_; intro gb177 hg w17 hbox hb; refine cut5_ (Kd.R_below (rR_ HO174.out) hb) (below_step (bl_ HB.out) hb) (hbox) (bz_ (w := w) hg (bl_ HB.out)) (bz_ (w := w) hg (bl_ HB.out)) ?_; clear HO174 HB; intro HO174 HB BK177 GW177 GE177; clear hb hbox hg; obtain ⟨hcz18_0, hcz18_1, hfz18_0, hfz18_1⟩ := cq2_ BK177.out; obtain ⟨Ao19, co19, eo19⟩ := Kd.R_slice HO174.out; subst eo19) | ((with_reducible refine gate_callee (f := 48) rfl ?_); refine goesL_ (some 36) rfl rfl Tryd.func48 (by kernel_rfl) rfl #[.slice Ao19 t172.length co19] rfl ga_ ?_; (with_reducible refine (printer_Print.calls k _ _ t172 t178 t179 _ ?side1 ?side2 ?side3 A9.out).mono ?_); (case side1 => exact Gl.below hG (bl1_ HB.out GE177.out)); (case side2 => refine (Kd.R_reads' (e := 41) (base := w.heap.size) (ok := fun k_ => True) (n := t172.length) (c := co19) ?_).2.2; exact (by (with_reducible repeat (first | apply Kd.R_alloc | apply Kd.R_drewN | apply Kd.R_drew)); exact (Kd.R_mono (Kd.R_far (p := ⟨gb177, 1, none⟩) (Kd.R_far (p := ⟨gb177, 0, none⟩) (Kd.R_types HO174.out BK177.out (by decide)) (fun _ hk => hk.2) (.int .i64 t175)) (fun _ hk => hk.2) (.int .i64 t176)) (fun _ h_ => h_.1)))); (case side3 => exact (Kd.R_reads' HO174.out).2.1); rintro e w20 ⟨rfl, hb⟩; refine ⟨_, rfl, ?_⟩; refine cut3_ (Kd.R_below (by (with_reducible repeat (first | apply Kd.R_alloc | apply Kd.R_drewN | apply Kd.R_drew)); exact (Kd.R_mono (Kd.R_far (p := ⟨gb177, 1, none⟩) (Kd.R_far (p := ⟨gb177, 0, none⟩) (Kd.R_types HO174.out BK177.out (by decide)) (fun _ hk => hk.2) (.int .i64 t175)) (fun _ hk => hk.2) (.int .i64 t176)) (fun _ h_ => h_.1))) hb) (blk_below (g := gb177) (o := .cells #[.int .i64 t175, .int .i64 t176] 26 (0, 0)) (put2_ (bk_ BK177.out)) hb) (below_step (bl1_ HB.out GE177.out) hb) ?_; clear HO174 BK177 HB; intro HO174 BK177 HB; (try clear hb); (try clear hb2); (try clear hk); (try clear hi); obtain ⟨hcz21_0, hcz21_1, hfz21_0, hfz21_1⟩ := cq2_ BK177.out) | (go_at_call 29; (with_reducible refine (pSame.calls k _ _ t172 _ _ l0 true _ ?side1 ?side2 ?side3 ?side4 A11.out).mono ?_); (case side1 => repeat (first | exact (Kd.R_reads' HO174.out).2.2 | (with_reducible refine Kd.C_alloc ?_ _) | (with_reducible refine Kd.C_drewN ?_ _) | (with_reducible refine Kd.C_drew ?_))); (case side2 => exact (Kd.R_reads' HO174.out).2.1); (case side3 => repeat (first | exact (Kd.C_below HR0.out HB.out) | (with_reducible refine Kd.C_alloc ?_ _) | (with_reducible refine Kd.C_drewN ?_ _) | (with_reducible refine Kd.C_drew ?_))); (case side4 => exact HC0.out); rintro e w22 ⟨rfl, hb⟩; refine cut3_ (Kd.R_below (rR_ HO174.out) hb) (bb_ BK177.out hb) (below_step (bl1_ HB.out GE177.out) hb) ?_; clear HO174 BK177 HB; intro HO174 BK177 HB; (try clear hb); (try clear hb2); (try clear hk); (try clear hi)))
       go_ret
       exact ⟨er_, bl1_ HB.out GE177.out⟩
      ·
       rw [if_neg c13] at H
       exact absurd H (by simp)
     ·
      replace c12 := Bool.eq_false_iff.mpr c12
      subst c12
      have H1 : (none) = some r := by rw [if_neg (show ¬ (false = true) by decide)] at H; exact H
      clear H
      have H := H1
      clear H1
      exact absurd H (by simp)
    ·
     rw [if_neg c10] at H
     exact absurd H (by simp)
   ·
    rw [if_neg c7] at H
    have c7b0 := beq_eq_false_iff_ne.mpr c7
    have c7b1 := bne_iff_ne.mpr c7
    replace H := Option.bind_eq_some_iff.mp H
    obtain ⟨t181, A230, H⟩ := H
    (try dsimp only at H)
    have A23 := Aside0.mk A230
    clear A230
    by_cases c24 : t171 = t181
    ·
     rw [if_pos c24] at H
     have c24b0 := beq_iff_eq.mpr c24
     have c24b1 := bne_eq_false_iff_eq.mpr c24
     clear c24
     obtain rfl := Option.some.inj H
     go_enter Tryd.func19, Tryd.ntmps19
     go_wp2_with (first | ((with_reducible refine gate_callee (f := 47) rfl ?_); refine goesL_ (some 9) rfl rfl Tryd.func47 (by kernel_rfl) rfl #[] rfl ga_ ?_; (with_reducible refine (salchowlaw11_awake.calls k  true _ ?side1 A2.out).mono ?_); (case side1 => exact Gl.below hG (bl_ HB.out)); rintro e w25 ⟨rfl, hb⟩; refine ⟨_, rfl, ?_⟩; refine cut1_ (below_step (bl_ HB.out) hb) ?_; clear HB; intro HB; (try clear hb); (try clear hb2); (try clear hk); (try clear hi)) | ((with_reducible refine gate_callee (f := 45) rfl ?_); refine goesL_ (some 12) rfl rfl Tryd.func45 (by kernel_rfl) rfl #[.slice A0 l0.length c0, .int .i64 300] rfl ga_ ?_; (with_reducible refine (salchowref10_Small.calls k _ _ l0 300 true _ ?side1 ?side2 A4.out).mono ?_); (case side1 => repeat (first | exact (Kd.C_below HR0.out HB.out) | (with_reducible refine Kd.C_alloc ?_ _) | (with_reducible refine Kd.C_drewN ?_ _) | (with_reducible refine Kd.C_drew ?_))); (case side2 => exact HC0.out); rintro e w' ⟨rfl, ⟨nd, rfl⟩⟩; refine ⟨_, rfl, ?_⟩) | ((with_reducible refine gate_callee (f := 48) rfl ?_); refine goesL_ (some 16) rfl rfl Tryd.func48 (by kernel_rfl) rfl #[.slice A0 l0.length c0] rfl ga_ ?_; (with_reducible refine (printer_Print.calls k _ _ l0 t170 t171 _ ?side1 ?side2 ?side3 A6.out).mono ?_); (case side1 => exact Gl.below hG (bl_ HB.out)); (case side2 => repeat (first | exact (Kd.C_below HR0.out (bl_ HB.out)) | (with_reducible refine Kd.C_alloc ?_ _) | (with_reducible refine Kd.C_drewN ?_ _) | (with_reducible refine Kd.C_drew ?_))); (case side3 => exact HC0.out); rintro e w26 ⟨rfl, hb⟩; refine ⟨_, rfl, ?_⟩; refine cut1_ (below_step (bl_ HB.out) hb) ?_; clear HB; intro HB; (try clear hb); (try clear hb2); (try clear hk); (try clear hi)) | ((with_reducible refine gate_callee (f := 26) rfl ?_); refine goesL_ (some 23) rfl rfl Tryd.func26 (by kernel_rfl) rfl #[.slice A0 l0.length c0] rfl ga_ ?_; (with_reducible refine (parser_Check.calls k _ _ l0 t181 _ ?side1 ?side2 A23.out).mono ?_); (case side1 => repeat (first | exact (Kd.C_below HR0.out HB.out) | (with_reducible refine Kd.C_alloc ?_ _) | (with_reducible refine Kd.C_drewN ?_ _) | (with_reducible refine Kd.C_drew ?_))); (case side2 => exact HC0.out); rintro e w27 ⟨rfl, hb⟩; refine ⟨_, rfl, ?_⟩; refine cut1_ (below_step (bl_ HB.out) hb) ?_; clear HB; intro HB; (try clear hb); (try clear hb2); (try clear hk); (try clear hi)))
     go_ret
     exact ⟨er_, bl_ HB.out⟩
    ·
     rw [if_neg c24] at H
     have c24b0 := beq_eq_false_iff_ne.mpr c24
     have c24b1 := bne_iff_ne.mpr c24
     obtain rfl := Option.some.inj H
     go_enter Tryd.func19, Tryd.ntmps19
     go_wp2_with (first | ((with_reducible refine gate_callee (f := 47) rfl ?_); refine goesL_ (some 9) rfl rfl Tryd.func47 (by kernel_rfl) rfl #[] rfl ga_ ?_; (with_reducible refine (salchowlaw11_awake.calls k  true _ ?side1 A2.out).mono ?_); (case side1 => exact Gl.below hG (bl_ HB.out)); rintro e w28 ⟨rfl, hb⟩; refine ⟨_, rfl, ?_⟩; refine cut1_ (below_step (bl_ HB.out) hb) ?_; clear HB; intro HB; (try clear hb); (try clear hb2); (try clear hk); (try clear hi)) | ((with_reducible refine gate_callee (f := 45) rfl ?_); refine goesL_ (some 12) rfl rfl Tryd.func45 (by kernel_rfl) rfl #[.slice A0 l0.length c0, .int .i64 300] rfl ga_ ?_; (with_reducible refine (salchowref10_Small.calls k _ _ l0 300 true _ ?side1 ?side2 A4.out).mono ?_); (case side1 => repeat (first | exact (Kd.C_below HR0.out HB.out) | (with_reducible refine Kd.C_alloc ?_ _) | (with_reducible refine Kd.C_drewN ?_ _) | (with_reducible refine Kd.C_drew ?_))); (case side2 => exact HC0.out); rintro e w' ⟨rfl, ⟨nd, rfl⟩⟩; refine ⟨_, rfl, ?_⟩) | ((with_reducible refine gate_callee (f := 48) rfl ?_); refine goesL_ (some 16) rfl rfl Tryd.func48 (by kernel_rfl) rfl #[.slice A0 l0.length c0] rfl ga_ ?_; (with_reducible refine (printer_Print.calls k _ _ l0 t170 t171 _ ?side1 ?side2 ?side3 A6.out).mono ?_); (case side1 => exact Gl.below hG (bl_ HB.out)); (case side2 => repeat (first | exact (Kd.C_below HR0.out (bl_ HB.out)) | (with_reducible refine Kd.C_alloc ?_ _) | (with_reducible refine Kd.C_drewN ?_ _) | (with_reducible refine Kd.C_drew ?_))); (case side3 => exact HC0.out); rintro e w29 ⟨rfl, hb⟩; refine ⟨_, rfl, ?_⟩; refine cut1_ (below_step (bl_ HB.out) hb) ?_; clear HB; intro HB; (try clear hb); (try clear hb2); (try clear hk); (try clear hi)) | ((with_reducible refine gate_callee (f := 26) rfl ?_); refine goesL_ (some 23) rfl rfl Tryd.func26 (by kernel_rfl) rfl #[.slice A0 l0.length c0] rfl ga_ ?_; (with_reducible refine (parser_Check.calls k _ _ l0 t181 _ ?side1 ?side2 A23.out).mono ?_); (case side1 => repeat (first | exact (Kd.C_below HR0.out HB.out) | (with_reducible refine Kd.C_alloc ?_ _) | (with_reducible refine Kd.C_drewN ?_ _) | (with_reducible refine Kd.C_drew ?_))); (case side2 => exact HC0.out); rintro e w30 ⟨rfl, hb⟩; refine ⟨_, rfl, ?_⟩; refine cut1_ (below_step (bl_ HB.out) hb) ?_; clear HB; intro HB; (try clear hb); (try clear hb2); (try clear hk); (try clear hi)))
     go_ret
     exact ⟨er_, bl_ HB.out⟩
  ·
   replace c5 := Bool.eq_false_iff.mpr c5
   subst c5
   have H1 : (some true) = some r := by rw [if_neg (show ¬ (false = true) by decide)] at H; exact H
   clear H
   have H := H1
   clear H1
   obtain rfl := Option.some.inj H
   go_enter Tryd.func19, Tryd.ntmps19
   go_wp2_with (first | ((with_reducible refine gate_callee (f := 47) rfl ?_); refine goesL_ (some 9) rfl rfl Tryd.func47 (by kernel_rfl) rfl #[] rfl ga_ ?_; (with_reducible refine (salchowlaw11_awake.calls k  true _ ?side1 A2.out).mono ?_); (case side1 => exact Gl.below hG (bl_ HB.out)); rintro e w31 ⟨rfl, hb⟩; refine ⟨_, rfl, ?_⟩; refine cut1_ (below_step (bl_ HB.out) hb) ?_; clear HB; intro HB; (try clear hb); (try clear hb2); (try clear hk); (try clear hi)) | ((with_reducible refine gate_callee (f := 45) rfl ?_); refine goesL_ (some 12) rfl rfl Tryd.func45 (by kernel_rfl) rfl #[.slice A0 l0.length c0, .int .i64 300] rfl ga_ ?_; (with_reducible refine (salchowref10_Small.calls k _ _ l0 300 false _ ?side1 ?side2 A4.out).mono ?_); (case side1 => repeat (first | exact (Kd.C_below HR0.out HB.out) | (with_reducible refine Kd.C_alloc ?_ _) | (with_reducible refine Kd.C_drewN ?_ _) | (with_reducible refine Kd.C_drew ?_))); (case side2 => exact HC0.out); rintro e w' ⟨rfl, ⟨nd, rfl⟩⟩; refine ⟨_, rfl, ?_⟩))
   go_ret
   exact ⟨er_, bl_ HB.out⟩
 ·
  replace c3 := Bool.eq_false_iff.mpr c3
  subst c3
  have H1 : (none) = some r := by rw [if_neg (show ¬ (false = true) by decide)] at H; exact H
  clear H
  have H := H1
  clear H1
  exact absurd H (by simp)
end Go.Proofs.YtkifdadhojbohaaDoor.Pr
namespace Go.Proofs.YtkifdadhojbohaaDoor.Pu
open Go.RowKit Go.Proofs.YtkifdadhojbohaaDoor Go.Proofs.YtkifdadhojbohaaDoor.Pr Go.Proofs.YtkifdadhojbohaaDoorW.PrintWords Go.Proofs.YtkifdadhojbohaaDoorW.PrintLast Go.Proofs.YtkifdadhojbohaaDoorW.PrintMore
theorem printerReads (l : List S41) : ∃ k, salchowlaw11_PrinterReads.f k l = some true := by
  apply Ev.rounds
  unfold salchowlaw11_PrinterReads.f
  refine Ev.bind awake11_f (Ev.ifp rfl ?_)
  obtain ⟨b, g1, g2⟩ := Small_f l 300 (by omega)
  refine Ev.bind g1 ?_
  cases b with
  | false => exact Ev.ifn (by simp) (Ev.now _)
  | true =>
    obtain ⟨hsz, hP⟩ := g2 rfl
    have hP' := txt_mono (m := 900000) (by omega) hP
    refine Ev.ifp rfl (Ev.bind (Print_f l (by omega) hP') ?_)
    unfold printA
    by_cases hc : chkL l = 0
    · rw [if_pos hc]
      by_cases h6 : 65536 < (srcL 0 l).length
      · rw [if_pos h6]
        refine Ev.ifn (by decide) (Ev.bind (Check_f l (by omega) hP') ?_)
        rw [hc]
        exact Ev.ifn (by decide) (Ev.now _)
      · rw [if_neg h6]
        obtain ⟨hf, hd⟩ := chk_ok hc
        obtain ⟨cs, y1, y2⟩ := PA_src l hf hd (by omega)
        have hlen : (str (srcL 0 l)).size ≤ 65536 := by rw [size_str]; omega
        obtain ⟨us, k1, k2, k3_, k4, k5, k6, k7, k8, k9, _⟩ := y2.facts (by omega)
        have hpr : printA cs = (str (srcL 0 l), 0) := by
          unfold printA
          rw [if_pos k8, src_same y1, if_neg h6]
        have hp2 := Print_f cs (by omega) k7
        rw [hpr] at hp2
        refine Ev.ifp rfl (Ev.bind (Parse_f _ hlen y2) (Ev.bind hp2 (Ev.ifp rfl (Ev.bind (Same_f y1) (Ev.ifp rfl (Ev.ifp rfl (Ev.ret (by simp))))))))
    · rw [if_neg hc]
      exact Ev.ifn hc (Ev.bind (Check_f l (by omega) hP') (Ev.ifp rfl (Ev.now _)))
end Go.Proofs.YtkifdadhojbohaaDoor.Pu
namespace Go.Proofs.YtkifdadhojbohaaDoor.Rk
open Go.RowKit Go.Proofs.YtkifdadhojbohaaDoor.Pr Go.Proofs.YtkifdadhojbohaaDoorW.PrintWords Go.ChangeShapes Go.WideShapes
theorem list4 {α : Type} : ∀ {l : List α}, l.length = 4 → ∃ a b c d, l = [a, b, c, d]
  | [a, b, c, d], _ => ⟨a, b, c, d, rfl⟩
theorem list5 {α : Type} : ∀ {l : List α}, l.length = 5 → ∃ a b c d e, l = [a, b, c, d, e]
  | [a, b, c, d, e], _ => ⟨a, b, c, d, e, rfl⟩
section
variable {H : Type} {enc : TypeId × Value → H} {w : World} {base : Nat} {spare : Nat → Bool} {held : Bool}
theorem open_row_of {α : Type} [Inhabited α] (d : Kd α) {t e : TypeId} (ht : Tryd.prog.underlying t = some (.slice e)) (hce : Tryd.prog.cellsOf e = d.sz) {fuel : Nat} {v : Value} {x : DataW H × List MemPlace}
    (h : DataW.trod enc Tryd.prog w base spare held fuel t [v] = some x) (hd : ∀ n cs y, n < fuel → DataW.trod enc Tryd.prog w base spare held n e cs = some y → ∃ p, d.K w p cs) :
    ∃ (A : Option Addr) (T : List α) (c : Nat), v = .slice A T.length c ∧ T.length ≤ c ∧ Kd.C d w A T.length T := by
  rcases DataW.trod_slice ht h with ⟨hv, _⟩ | ⟨a, len, cap, elems, rest, n, hf, hv, _, _, hl, hm, hlen, hel, _, _⟩
  · refine ⟨none, [], 0, (List.cons.inj hv).1, Nat.le_refl _, rfl, by simp, fun h => absurd h (by simp)⟩
  · have hx : ∀ i, i < len → ∃ p : α, ∃ cs, w.cells? base (a.add (i * d.sz)) d.sz = some cs ∧ d.K w p cs := by
      intro i hi
      have h1 := hel i hi
      rw [List.getElem?_eq_getElem (by omega), hce] at h1
      obtain ⟨cs, hc, hy⟩ := Option.bind_eq_some_iff.1 h1
      obtain ⟨p, hp⟩ := hd n cs _ (by omega) hy
      exact ⟨p, cs, hc, hp⟩
    obtain ⟨V, hV⟩ := Deep.choose_lt hx
    have hml : maxLen ≤ 9223372036854775807 := by decide
    refine ⟨some a, (List.range len).map V, cap, ?_, by simpa using hl, by simp, by simp; omega, fun _ => ⟨a, rfl, fun j p hj => ?_⟩⟩
    · rw [(List.cons.inj hv).1]; simp
    · rw [List.getElem?_map] at hj
      obtain ⟨i, hi, rfl⟩ := Option.map_eq_some_iff.1 hj
      have hjl : j < len := by
        have := (List.getElem?_eq_some_iff.1 hi).1
        simpa using this
      rw [List.getElem?_range hjl] at hi
      obtain rfl := Option.some.inj hi
      obtain ⟨cs, hc, hp⟩ := hV j hjl
      obtain ⟨_, hcl, hcell⟩ := World.cells?_some hc
      refine ⟨cs, hcl, hp, fun i u hu => ?_⟩
      have hi : i < d.sz := by rw [← hcl]; exact (List.getElem?_eq_some_iff.1 hu).1
      rw [← Addr.add_add, hcell i hi, hu]
instance : Inhabited S46 := ⟨z46⟩
instance : Inhabited S41 := ⟨z41⟩
theorem tok_of {n : Nat} {cs : List Value} {y : DataW H × List MemPlace} (h : DataW.trod enc Tryd.prog w base spare held n 46 cs = some y) : ∃ p : S46, k46.K w p cs := by
  obtain ⟨y0, y1, y2, y3, m, _, hl, t0, t1, t2, t3⟩ := Joins.trod_struct4 Tryd.underlying46 h
  obtain ⟨b0, e0, _, _⟩ := DataW.trod_int Tryd.underlying3 t0
  obtain ⟨b1, e1, _, _⟩ := DataW.trod_string Tryd.underlying9 t1
  obtain ⟨b2, e2, _, _⟩ := DataW.trod_int Tryd.underlying2 t2
  obtain ⟨b3, e3, _, _⟩ := DataW.trod_int Tryd.underlying3 t3
  have hc : Tryd.prog.cellsOf 46 = 4 := by kernel_rfl
  have c2 : Tryd.prog.cellsOf 2 = 1 := by kernel_rfl
  have c3 : Tryd.prog.cellsOf 3 = 1 := by kernel_rfl
  have c9 : Tryd.prog.cellsOf 9 = 1 := by kernel_rfl
  rw [hc] at hl
  simp only [c2, c3, c9] at e0 e1 e2 e3
  obtain ⟨u0, u1, u2, u3, rfl⟩ := list4 hl
  obtain rfl : u0 = _ := (List.cons.inj e0).1
  obtain rfl : u1 = _ := (List.cons.inj e1).1
  obtain rfl : u2 = _ := (List.cons.inj e2).1
  obtain rfl : u3 = _ := (List.cons.inj e3).1
  exact ⟨⟨b0, b1, b2, b3⟩, k46_mk w ⟨b0, b1, b2, b3⟩⟩
theorem open_tokens {fuel : Nat} {v : Value} {x : DataW H × List MemPlace} (h : DataW.trod enc Tryd.prog w base spare held fuel 31 [v] = some x) :
    ∃ (A : Option Addr) (T : List S46) (c : Nat), v = .slice A T.length c ∧ T.length ≤ c ∧ Kd.C k46 w A T.length T :=
  open_row_of k46 Tryd.underlying31 (by kernel_rfl) h (fun _ _ _ _ hy => tok_of hy)
theorem clause_of : ∀ (n : Nat) (cs : List Value) (y : DataW H × List MemPlace), DataW.trod enc Tryd.prog w base spare held n 41 cs = some y → ∃ p : S41, k41.K w p cs := by
  intro n
  induction n using Nat.strongRecOn with
  | _ n ih =>
    intro cs y h
    obtain ⟨xs, m, hm, _, hl, hxl, hf⟩ := DataW.trod_struct Tryd.underlying41 h
    have hc : Tryd.prog.cellsOf 41 = 5 := by kernel_rfl
    have c3 : Tryd.prog.cellsOf 3 = 1 := by kernel_rfl
    have c4 : Tryd.prog.cellsOf 4 = 1 := by kernel_rfl
    have c9 : Tryd.prog.cellsOf 9 = 1 := by kernel_rfl
    have c23 : Tryd.prog.cellsOf 23 = 1 := by kernel_rfl
    have c31 : Tryd.prog.cellsOf 31 = 1 := by kernel_rfl
    rw [hc] at hl
    obtain ⟨u0, u1, u2, u3, u4, rfl⟩ := list5 hl
    obtain ⟨y0, y1, y2, y3, y4, rfl⟩ := list5 (l := xs) hxl
    ·
      have t0 : DataW.trod enc Tryd.prog w base spare held m 9 (([u0, u1, u2, u3, u4].drop 0).take (Tryd.prog.cellsOf 9)) = some y0 := hf 0 _ rfl
      have t1 : DataW.trod enc Tryd.prog w base spare held m 31 (([u0, u1, u2, u3, u4].drop 1).take (Tryd.prog.cellsOf 31)) = some y1 := hf 1 _ rfl
      have t2 : DataW.trod enc Tryd.prog w base spare held m 4 (([u0, u1, u2, u3, u4].drop 2).take (Tryd.prog.cellsOf 4)) = some y2 := hf 2 _ rfl
      have t3 : DataW.trod enc Tryd.prog w base spare held m 23 (([u0, u1, u2, u3, u4].drop 3).take (Tryd.prog.cellsOf 23)) = some y3 := hf 3 _ rfl
      have t4 : DataW.trod enc Tryd.prog w base spare held m 3 (([u0, u1, u2, u3, u4].drop 4).take (Tryd.prog.cellsOf 3)) = some y4 := hf 4 _ rfl
      rw [c9] at t0
      rw [c31] at t1
      rw [c4] at t2
      rw [c23] at t3
      rw [c3] at t4
      obtain ⟨b0, e0, _, _⟩ := DataW.trod_string Tryd.underlying9 t0
      obtain ⟨A1, T1, c1, e1, l1, g1⟩ := open_tokens t1
      obtain ⟨b2, e2, _⟩ := DataW.trod_bool Tryd.underlying4 t2
      obtain ⟨A3, T3, c3', e3, l3, g3⟩ := open_row_of k41 Tryd.underlying23 (by kernel_rfl) t3 (fun k cs y hk hy => ih k (by omega) cs y hy)
      obtain ⟨b4, e4, _, _⟩ := DataW.trod_int Tryd.underlying3 t4
      obtain rfl : u0 = _ := (List.cons.inj e0).1
      obtain rfl : u1 = _ := e1
      obtain rfl : u2 = _ := (List.cons.inj e2).1
      obtain rfl : u3 = _ := e3
      obtain rfl : u4 = _ := (List.cons.inj e4).1
      exact ⟨⟨b0, T1, b2, T3, b4⟩, k41_mk w ⟨b0, T1, b2, T3, b4⟩ l1 g1 l3 g3⟩
theorem open_clauses {fuel : Nat} {v : Value} {x : DataW H × List MemPlace} (h : DataW.trod enc Tryd.prog w base spare held fuel 23 [v] = some x) :
    ∃ (A : Option Addr) (T : List S41) (c : Nat), v = .slice A T.length c ∧ T.length ≤ c ∧ Kd.C k41 w A T.length T :=
  open_row_of k41 Tryd.underlying23 (by kernel_rfl) h (fun n cs y _ hy => clause_of n cs y hy)
end
end Go.Proofs.YtkifdadhojbohaaDoor.Rk
namespace Go.Proofs.YtkifdadhojbohaaDoor.printerReads
open Go.Proofs.YtkifdadhojbohaaDoorW.PrintWords
open Go.ChangeShapes Go.WideShapes Go.ChangeAt Go.RowKit Rk
open Go.ChangeMaps (open_string shut_string)
theorem c09 : (Rows.printerReadsRow.inPlace == Tryd.prog.inPlace 19) = true := by kernel_rfl
theorem c10 : (Rows.printerReadsRow.unfollowed == Tryd.prog.unfollowed 19) = true := by kernel_rfl
theorem c11 : (Rows.printerReadsRow.recurses == Tryd.prog.recurses 19) = true := by kernel_rfl
theorem c12 : (Rows.printerReadsRow.named == Tryd.prog.varsNamed 19) = true := by kernel_rfl
theorem facts : joinedFacts Tryd.prog 19 Tryd.f19 Rows.printerReadsSpec Rows.printerReadsRow = true :=
  facts_of _ _ _ _ _ (by kernel_rfl) out_ rowed_ (by kernel_rfl) (by kernel_rfl) rfl (by kernel_rfl) rfl (by kernel_rfl) c09 c10 c11 c12 (by kernel_rfl) (by kernel_rfl) (by kernel_rfl) (by kernel_rfl) (by kernel_rfl)
    (by kernel_rfl) (by kernel_rfl) (by kernel_rfl) (by kernel_rfl) (by kernel_rfl) (by kernel_rfl) heard_ enter_ (by kernel_rfl) (by kernel_rfl) (by kernel_rfl) (by kernel_rfl) (by kernel_rfl) (by kernel_rfl)
theorem goes : false = Rows.printerReadsRow.goesBy Tryd.prog := by kernel_rfl
set_option maxRecDepth 100000 in
theorem lifted (os : Os) (started : os.Started) (H : Type) (enc : TypeId × Value → H) :
    ReturnsInHanded {} Tryd.checked os 19 .any (fun w args => (Rows.printerReadsSpec.pre enc Tryd.prog Tryd.f19 [] false w args ∧ laidMetH Tryd.prog laidB w) ∧ sizedMet enc Tryd.prog Tryd.f19 (OpenSpec.ofChange Rows.printerReadsSpec) false w args)
      (Rows.printerReadsSpec.post enc Tryd.prog Tryd.f19 false true false false) := by
  refine returnsInHanded_of_change_and (C := Tryd.checked) (X := fun w _ => laidMetH Tryd.prog laidB w) (fun _ _ _ hh h => h.of_heap hh) own started (by kernel_rfl) Tryd.func19
    (ChangeSpec.witness_shaped (enc := enc) (C := Tryd.checked) (os := os) (X := fun w _ => laidMetH Tryd.prog laidB w) false (wB os) #[.slice none 0 0] 8 (World.laidAll_os _ _ _)
      (World.shaped_of_ZipB (by kernel_rfl) (by kernel_rfl)) (by kernel_rfl) (by kernel_rfl) (by kernel_rfl) (met_B os _)) ?_
  intro W base args ds gs before hval0 hW _ hsz0 hL _
  have hsz : (DataW.weightsEach Tryd.prog (Tryd.f19.params.toList ++ Rows.printerReadsSpec.plain.varTypes Tryd.prog) (ds ++ gs)).all (· ≤ reachBytes) = true := hsz0
  have hval : ∀ (j : Nat) t v, Tryd.f19.params[j]? = some t → args[j]? = some v → Value.okWide Tryd.prog W .any base t v := hval0
  have hW' := hW
  obtain ⟨p, q, hA0, hV, rfl, _, _⟩ := hW
  have hA : DataW.TrodAll enc Tryd.prog W 0 (fun _ => true) true Tryd.f19.params.toList args.toList ds p := hA0
  rw [Tryd.params19] at hA hval hsz
  obtain ⟨v0, vs0, d0, ds0, p0, q0, hargs, rfl, rfl, h0, r0⟩ := trodAll_cons hA
  obtain ⟨rfl, rfl, rfl⟩ := trodAll_nil r0
  obtain rfl : args = #[v0] := by cases args; simp_all
  obtain ⟨rfl, rfl⟩ := trodVars_none hV
  obtain ⟨a0, len0, cap0, rfl⟩ := okWide_slice Tryd.underlying23 (hval 0 23 v0 rfl rfl)
  have k0 := h0
  have lt0 : ∀ x ∈ p0, x.block < W.heap.size := by obtain ⟨m, hm⟩ := k0; exact DataW.trod_lt m _ _ _ hm
  obtain ⟨A0, T0, c0, e0, l0, g0⟩ : ∃ A T c, Value.slice a0 len0 cap0 = .slice A T.length c ∧ T.length ≤ c ∧ Kd.C Pr.k41 W A T.length T := by
    obtain ⟨fuel, hf⟩ := h0
    exact open_clauses (fuel := fuel) (by simpa [Value.cells] using hf)
  rw [e0] at k0 hW' ⊢
  clear hA0 hval0 hsz0 hsz
  obtain ⟨k, hk⟩ := Pu.printerReads T0
  refine (Pr.salchowlaw11_PrinterReads.calls k A0 c0 T0 true W (gl_B hL) g0 l0 hk).mono fun e W' ⟨he, bel⟩ => ?_
  subst he
  exact ⟨_, rfl, _, _, _, [], _, [], hW', trodAll_mk1 (shut_bool Tryd.underlying4 _), (trodAll_cons_mk (Below.trod out_ (by kernel_rfl) (of_decide_eq_true (by kernel_rfl)) k0 bel lt0) trodAll_mk0), rfl, bel.frame _, fun h => by cases h⟩
theorem over : Rows.printerReadsRow.holds Tryd.pinned (OpenSpec.ofChange Rows.printerReadsSpec) :=
  OpenClaim.holds_of_wide 19 Tryd.f19 rfl rfl rfl rfl rfl rfl rfl ⟨rfl, rfl, rfl, rfl, rfl⟩ rfl rfl rfl rfl rfl (by kernel_rfl) Tryd.func19 facts
    (of_decide_eq_true (by kernel_rfl)) (by unfold Func.isWrapper; first | (rw [if_pos (by decide +kernel)]; kernel_rfl) | (rw [if_neg (by decide +kernel)]; exact ⟨rfl, rfl⟩))
    (fun os started H enc _ => lifted os started H enc)
theorem card : Rows.PrinterReadsCardSaid :=
  Claim7.holds_tied_plain_at .later [] [.data, .data, .data, .data, .sentinel, .sentinel, .pinned] true (true, "74d2011260c70b611c86c4d3b7f5d11cc5fefff18c715f175ff3522b41f9dd0c") true
    over (fun _ h => by cases h) (by kernel_rfl) (fun _ h => by cases h) printerReads_row_tie rfl ⟨rfl, rfl⟩ mainIs_ rfl
    (fun f fn hf hfn => by
      obtain rfl : f = 19 := Option.some.inj ((show Tryd.prog.funcNamed "salchow/salchowlaw11.PrinterReads" = some 19 by kernel_rfl).symm.trans hf) |>.symm
      obtain rfl : fn = Tryd.f19 := (Option.some.inj (Tryd.func19.symm.trans hfn)).symm
      exact ⟨looks_, fun j t ht => by
        rw [Tryd.params19] at ht
        have hm : t ∈ [23] := by simpa using Array.mem_of_getElem? ht
        have hall : ([23].all fun u => !Tryd.prog.wantsStandIn u) = true := by kernel_rfl
        exact (show Tryd.prog.wantsStandIn t = false by simpa using List.all_eq_true.1 hall t hm)⟩)
    goes
#print axioms card
end Go.Proofs.YtkifdadhojbohaaDoor.printerReads
