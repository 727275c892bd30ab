/- Joined out of the texts of this proof that bear the names PrF50 PrZ5 PzF RowPrinterEqual: what each shows stands over it there. -/
import Derived.Test.YtkifdadhojbohaaGreatDoorEk1
import Derived.Test.YtkifdadhojbohaaGreatDoorEp1
import Derived.Test.YtkifdadhojbohaaGreatDoorEs1
import Derived.Test.YtkifdadhojbohaaGreatDoorEo1
import Derived.Test.YtkifdadhojbohaaGreatDoorEf2
import Derived.Test.YtkifdadhojbohaaGreatDoorEq1
import Derived.Test.YtkifdadhojbohaaGreatDoorEr1
import Derived.Test.YtkifdadhojbohaaGreatDoorCards
import Derived.Test.YtkifdadhojbohaaGreatDoorTie
import Derived.WalkKit
import Derived.OpenShut
import Derived.ShutString
import Derived.ChangeOld
import Derived.SizedLaws
import Derived.SevenTiedAt
import Derived.Handed
import Derived.LaidLaws
set_option linter.unusedVariables false
set_option linter.unusedSimpArgs false
set_option maxHeartbeats 8000000
set_option maxRecDepth 100000
namespace Go.Proofs.YtkifdadhojbohaaGreatDoor.Pr
open Go.Proofs.YtkifdadhojbohaaGreatDoor
open Go.RowKit Go.Proofs.YtkifdadhojbohaaGreatDoorW.PrintWords Go.Proofs.YtkifdadhojbohaaGreatDoorW.PrintLast Go.Proofs.YtkifdadhojbohaaGreatDoorW.PrintMore
attribute [local go_sem] fU fQ gL gK eT eQ fT fP
def fq.f (k : Nat) (a0 : ByteArray) (a1 : ByteArray) : Option (Bool) := (bV.f k a0).bind fun bt182 => ((bV.f k a1).bind fun bt188 => (if bt182.2.1 = 0 then (if bt188.2.1 = 0 then ((pSame.f k bt182.1 bt188.1).bind fun t194 => (some t194)) else (some false)) else (some false)))
theorem fq.calls (k : Nat) (a0 : ByteArray) (a1 : ByteArray) (r : Bool) (w : World) (h : fq.f k a0 a1 = some r) :
  Calls Tryz.prog 19 #[.string a0, .string a1] w fun e w' => e = .returned (.bool r) ∧ Below w.heap.size w w' := by
 have hu26 := Tryz.underlying40; have HB := af.mk (Below.refl w.heap.size w); have H : ((bV.f k a0).bind fun bt182 => ((bV.f k a1).bind fun bt188 => (if bt182.2.1 = 0 then (if bt188.2.1 = 0 then ((pSame.f k bt182.1 bt188.1).bind fun t194 => (some t194)) else (some false)) else (some false)))) = some r := h; clear h; replace H := bn_ H; obtain ⟨⟨t182, t185, t186⟩, A3, H⟩ := H; (try dsimp only at H); replace H := bn_ H; obtain ⟨⟨t188, t191, t192⟩, A4, H⟩ := H; (try dsimp only at H); replace H := (sp_ H).symm; obtain ⟨c5, H⟩ | ⟨c5, H⟩ := H
 ·
  have c5b0 := beq_eq_false_iff_ne.mpr c5; have c5b1 := bne_iff_ne.mpr c5; obtain rfl := Option.some.inj H
  go_enter Tryz.func19, Tryz.ntmps19
  go_wp2_with (first | ((with_reducible refine aj (f := 37) rfl ?_); refine gk_ (some 11) Tryz.func37 (bV.calls k a0 t182 t185 t186 _ A3.1) ?_; rintro e w27 ⟨v183, rfl, ho0, hb⟩; refine ⟨_, rfl, ?_⟩; refine fK (Kd.dB ho0 (bH (bl_ HB.1))) (ah (bl_ HB.1) hb) ?_; clear hb HB; intro HO184 HB; (try clear ho0)) | ((with_reducible refine aA (N := 6) rfl ?_); refine bx_ (N := 6) (cs := #[.int .i64 0, .int .i64 0]) (t := 40) ?_; intro gb187 hg w28 hbox hb; refine gm (Kd.aW (rR_ HO184.1) hb) (ah (bl_ HB.1) hb) (hbox) (bz_ (w := w) hg (bl_ HB.1)) (bz_ (w := w) hg (bl_ HB.1)) ?_; clear HO184 HB; intro HO184 HB BK187 GW187 GE187; clear hb hbox hg; obtain ⟨hcz29_0, hcz29_1, hfz29_0, hfz29_1⟩ := cq2_ BK187.1) | ((with_reducible refine aj (f := 37) rfl ?_); refine gk_ (some 16) Tryz.func37 (bV.calls k a1 t188 t191 t192 _ A4.1) ?_; rintro e w30 ⟨v189, rfl, ho0, hb⟩; refine ⟨_, rfl, ?_⟩; refine df (Kd.iZ (rR_ (Kd.aQ (rf2_ gb187 (Kd.bu HO184.1 BK187.1 (by decide))) (fun _ h_ => h_.1))) (Kd.gY ho0) hb) (Kd.dB (Kd.gX ho0 (Kd.R_lt (rR_ (Kd.aQ (rf2_ gb187 (Kd.bu HO184.1 BK187.1 (by decide))) (fun _ h_ => h_.1))))) (bH (bl1_ HB.1 GE187.1))) (aZ (g := gb187) (o := .cells #[.int .i64 t185, .int .i64 t186] 40 (0, 0)) (gU (bk_ BK187.1)) hb) (ah (bl1_ HB.1 GE187.1) hb) ?_; clear hb HO184 BK187 HB; intro HO184 HO190 BK187 HB; (try clear ho0)) | ((with_reducible refine aA (N := 8) rfl ?_); refine bx_ (N := 8) (cs := #[.int .i64 0, .int .i64 0]) (t := 40) ?_; intro gb193 hg w31 hbox hb; refine cut9_ (Kd.aW (rR_ HO184.1) hb) (Kd.aW (rR_ HO190.1) hb) (bb_ BK187.1 hb) (ah (bl1_ HB.1 GE187.1) hb) (hbox) (bz_ (w := w) hg (bl1_ HB.1 GE187.1)) (bz_ (w := w) hg (bl1_ HB.1 GE187.1)) (nl_ hg BK187.1) (ng_ hg BK187.1) ?_; clear HO184 HO190 BK187 HB; intro HO184 HO190 BK187 HB BK193 GW193 GE193 NB187_193 NB193_187; clear hb hbox hg; have hnb32 := NB193_187.1; have hnc32 := NB187_193.1; obtain ⟨hcz33_0, hcz33_1, hfz33_0, hfz33_1⟩ := cq2_ BK193.1; obtain ⟨hcz34_0, hcz34_1, hfz34_0, hfz34_1⟩ := cq2_ BK187.1))
  go_ret
  exact ⟨er_, bl2_ HB.1 GE187.1 GE193.1⟩
 have c5b0 := beq_iff_eq.mpr c5; have c5b1 := bne_eq_false_iff_eq.mpr c5; clear c5; replace H := (sp_ H).symm; obtain ⟨c6, H⟩ | ⟨c6, H⟩ := H
 ·
  have c6b0 := beq_eq_false_iff_ne.mpr c6; have c6b1 := bne_iff_ne.mpr c6; obtain rfl := Option.some.inj H
  go_enter Tryz.func19, Tryz.ntmps19
  go_wp2_with (first | ((with_reducible refine aj (f := 37) rfl ?_); refine gk_ (some 11) Tryz.func37 (bV.calls k a0 t182 t185 t186 _ A3.1) ?_; rintro e w19 ⟨v183, rfl, ho0, hb⟩; refine ⟨_, rfl, ?_⟩; refine fK (Kd.dB ho0 (bH (bl_ HB.1))) (ah (bl_ HB.1) hb) ?_; clear hb HB; intro HO184 HB; (try clear ho0)) | ((with_reducible refine aA (N := 6) rfl ?_); refine bx_ (N := 6) (cs := #[.int .i64 0, .int .i64 0]) (t := 40) ?_; intro gb187 hg w20 hbox hb; refine gm (Kd.aW (rR_ HO184.1) hb) (ah (bl_ HB.1) hb) (hbox) (bz_ (w := w) hg (bl_ HB.1)) (bz_ (w := w) hg (bl_ HB.1)) ?_; clear HO184 HB; intro HO184 HB BK187 GW187 GE187; clear hb hbox hg; obtain ⟨hcz21_0, hcz21_1, hfz21_0, hfz21_1⟩ := cq2_ BK187.1) | ((with_reducible refine aj (f := 37) rfl ?_); refine gk_ (some 16) Tryz.func37 (bV.calls k a1 t188 t191 t192 _ A4.1) ?_; rintro e w22 ⟨v189, rfl, ho0, hb⟩; refine ⟨_, rfl, ?_⟩; refine df (Kd.iZ (rR_ (Kd.aQ (rf2_ gb187 (Kd.bu HO184.1 BK187.1 (by decide))) (fun _ h_ => h_.1))) (Kd.gY ho0) hb) (Kd.dB (Kd.gX ho0 (Kd.R_lt (rR_ (Kd.aQ (rf2_ gb187 (Kd.bu HO184.1 BK187.1 (by decide))) (fun _ h_ => h_.1))))) (bH (bl1_ HB.1 GE187.1))) (aZ (g := gb187) (o := .cells #[.int .i64 t185, .int .i64 t186] 40 (0, 0)) (gU (bk_ BK187.1)) hb) (ah (bl1_ HB.1 GE187.1) hb) ?_; clear hb HO184 BK187 HB; intro HO184 HO190 BK187 HB; (try clear ho0)) | ((with_reducible refine aA (N := 8) rfl ?_); refine bx_ (N := 8) (cs := #[.int .i64 0, .int .i64 0]) (t := 40) ?_; intro gb193 hg w23 hbox hb; refine cut9_ (Kd.aW (rR_ HO184.1) hb) (Kd.aW (rR_ HO190.1) hb) (bb_ BK187.1 hb) (ah (bl1_ HB.1 GE187.1) hb) (hbox) (bz_ (w := w) hg (bl1_ HB.1 GE187.1)) (bz_ (w := w) hg (bl1_ HB.1 GE187.1)) (nl_ hg BK187.1) (ng_ hg BK187.1) ?_; clear HO184 HO190 BK187 HB; intro HO184 HO190 BK187 HB BK193 GW193 GE193 NB187_193 NB193_187; clear hb hbox hg; have hnb24 := NB193_187.1; have hnc24 := NB187_193.1; obtain ⟨hcz25_0, hcz25_1, hfz25_0, hfz25_1⟩ := cq2_ BK193.1; obtain ⟨hcz26_0, hcz26_1, hfz26_0, hfz26_1⟩ := cq2_ BK187.1))
  go_ret
  exact ⟨er_, bl2_ HB.1 GE187.1 GE193.1⟩
 have c6b0 := beq_iff_eq.mpr c6; have c6b1 := bne_eq_false_iff_eq.mpr c6; clear c6; replace H := bn_ H; obtain ⟨t194, A7, H⟩ := H; (try dsimp only at H); obtain rfl := Option.some.inj H
 go_enter Tryz.func19, Tryz.ntmps19
 go_wp2_with (first | ((with_reducible refine aj (f := 37) rfl ?_); refine gk_ (some 11) Tryz.func37 (bV.calls k a0 t182 t185 t186 _ A3.1) ?_; rintro e w8 ⟨v183, rfl, ho0, hb⟩; refine ⟨_, rfl, ?_⟩; refine fK (Kd.dB ho0 (bH (bl_ HB.1))) (ah (bl_ HB.1) hb) ?_; clear hb HB; intro HO184 HB; (try clear ho0)) | ((with_reducible refine aA (N := 6) rfl ?_); refine bx_ (N := 6) (cs := #[.int .i64 0, .int .i64 0]) (t := 40) ?_; intro gb187 hg w9 hbox hb; refine gm (Kd.aW (rR_ HO184.1) hb) (ah (bl_ HB.1) hb) (hbox) (bz_ (w := w) hg (bl_ HB.1)) (bz_ (w := w) hg (bl_ HB.1)) ?_; clear HO184 HB; intro HO184 HB BK187 GW187 GE187; clear hb hbox hg; obtain ⟨hcz10_0, hcz10_1, hfz10_0, hfz10_1⟩ := cq2_ BK187.1) | ((with_reducible refine aj (f := 37) rfl ?_); refine gk_ (some 16) Tryz.func37 (bV.calls k a1 t188 t191 t192 _ A4.1) ?_; rintro e w11 ⟨v189, rfl, ho0, hb⟩; refine ⟨_, rfl, ?_⟩; refine df (Kd.iZ (rR_ (Kd.aQ (rf2_ gb187 (Kd.bu HO184.1 BK187.1 (by decide))) (fun _ h_ => h_.1))) (Kd.gY ho0) hb) (Kd.dB (Kd.gX ho0 (Kd.R_lt (rR_ (Kd.aQ (rf2_ gb187 (Kd.bu HO184.1 BK187.1 (by decide))) (fun _ h_ => h_.1))))) (bH (bl1_ HB.1 GE187.1))) (aZ (g := gb187) (o := .cells #[.int .i64 t185, .int .i64 t186] 40 (0, 0)) (gU (bk_ BK187.1)) hb) (ah (bl1_ HB.1 GE187.1) hb) ?_; clear hb HO184 BK187 HB; intro HO184 HO190 BK187 HB; (try clear ho0)) | ((with_reducible refine aA (N := 8) rfl ?_); refine bx_ (N := 8) (cs := #[.int .i64 0, .int .i64 0]) (t := 40) ?_; intro gb193 hg w12 hbox hb; refine cut9_ (Kd.aW (rR_ HO184.1) hb) (Kd.aW (rR_ HO190.1) hb) (bb_ BK187.1 hb) (ah (bl1_ HB.1 GE187.1) hb) (hbox) (bz_ (w := w) hg (bl1_ HB.1 GE187.1)) (bz_ (w := w) hg (bl1_ HB.1 GE187.1)) (nl_ hg BK187.1) (ng_ hg BK187.1) ?_; clear HO184 HO190 BK187 HB; intro HO184 HO190 BK187 HB BK193 GW193 GE193 NB187_193 NB193_187; clear hb hbox hg; have hnb13 := NB193_187.1; have hnc13 := NB187_193.1; obtain ⟨hcz14_0, hcz14_1, hfz14_0, hfz14_1⟩ := cq2_ BK193.1; obtain ⟨hcz15_0, hcz15_1, hfz15_0, hfz15_1⟩ := cq2_ BK187.1; obtain ⟨Ao16, co16, eo16⟩ := Kd.cO HO184.1; subst eo16; obtain ⟨Ao17, co17, eo17⟩ := Kd.cO HO190.1; subst eo17) | (go_at_call 38; (with_reducible refine (pSame.calls k _ _ t182 _ _ t188 t194 _ ?side1 ?side2 ?side3 ?side4 A7.1).mono ?_); (case side1 => refine (Kd.d9 (e := 25) (base := w.heap.size) (ok := fun k_ => (True ∧ some k_ ≠ (.slice Ao17 t188.length co17 : Value).ownBlock)) (n := t182.length) (c := co16) ?_).2.2; exact (rR_ (Kd.aQ (rf2_ gb193 (Kd.bu HO184.1 BK193.1 (by decide))) (fun _ h_ => h_.1)))); (case side2 => exact (Kd.d9 HO184.1).2.1); (case side3 => refine (Kd.d9 (e := 25) (base := w.heap.size) (ok := fun k_ => (True ∧ some k_ ≠ (.slice Ao16 t182.length co16 : Value).ownBlock)) (n := t188.length) (c := co17) ?_).2.2; exact (rR_ (Kd.aQ (rf2_ gb193 (Kd.bu HO190.1 BK193.1 (by decide))) (fun _ h_ => h_.1)))); (case side4 => exact (Kd.d9 HO190.1).2.1); rintro e w18 ⟨rfl, hb⟩; refine gm (Kd.aW (rR_ (Kd.aQ (rf2_ gb193 (Kd.bu HO184.1 BK193.1 (by decide))) (fun _ h_ => h_.1))) hb) (Kd.aW (rR_ (Kd.aQ (rf2_ gb193 (Kd.bu HO190.1 BK193.1 (by decide))) (fun _ h_ => h_.1))) hb) (aZ (g := gb187) (o := .cells #[.int .i64 t185, .int .i64 t186] 40 (0, 0)) (dC (bk_ BK187.1) NB187_193.1) hb) (aZ (g := gb193) (o := .cells #[.int .i64 t191, .int .i64 t192] 40 (0, 0)) (gU (bk_ BK193.1)) hb) (ah (bl2_ HB.1 GE187.1 GE193.1) hb) ?_; clear HO184 HO190 BK187 BK193 HB; intro HO184 HO190 BK187 BK193 HB; (try clear hb); (try clear hb2); (try clear hk); (try clear hi)))
 go_ret
 exact ⟨er_, bl2_ HB.1 GE187.1 GE193.1⟩
attribute [local go_sem high] eqA26
mutual
def aD.j0 : Nat → ByteArray → ByteArray → Bool → Option (Bool)
 | 0, _, _, _ => none
 | k + 1, x0, x1, x23 => if x23 = true then (some true) else ((bn.f k x0).bind fun bt375 => ((bn.f k x1).bind fun bt381 => (if bt375.2.1 = 0 then (if bt381.2.1 = 0 then ((fA.f k bt375.1 bt381.1).bind fun t387 => (aD.j1 k x0 x1 t387 bt375.2.1 bt375.2.2 bt381.2.1 bt381.2.2)) else (aD.j1 k x0 x1 false bt375.2.1 bt375.2.2 bt381.2.1 bt381.2.2)) else (aD.j1 k x0 x1 false bt375.2.1 bt375.2.2 bt381.2.1 bt381.2.2))))
def aD.j1 : Nat → ByteArray → ByteArray → Bool → Int → Int → Int → Int → Option (Bool)
 | 0, _, _, _, _, _, _, _ => none
 | k + 1, x0, x1, x9, x381000, x381001, x387000, x387001 => (fq.f k x0 x1).bind fun t388 => (if (t388 != x9) = true then (aD.j2 k x0 x1 x9 true x381000 x381001 x387000 x387001) else ((fq.f k x1 x0).bind fun t389 => (aD.j2 k x0 x1 x9 (t389 != x9) x381000 x381001 x387000 x387001)))
def aD.j2 : Nat → ByteArray → ByteArray → Bool → Bool → Int → Int → Int → Int → Option (Bool)
 | 0, _, _, _, _, _, _, _, _ => none
 | k + 1, x0, x1, x9, x58, x381000, x381001, x387000, x387001 => if x58 = true then (none) else ((bC.f k x0).bind fun bt390 => ((bC.f k x1).bind fun bt394 => (if x381000 = 0 then (if x387000 = 0 then (if (bt390.2.1 == 0 && (bt390.2.2 == 0)) = true then (if (bt394.2.1 == 0 && (bt394.2.2 == 0)) = true then (some ((bt390.1.toList == bt394.1.toList) == x9)) else (none)) else (none)) else (some true)) else (some true))))
end
def aD.f (k : Nat) (a0 : ByteArray) (a1 : ByteArray) : Option (Bool) := (bZ.f k).bind fun t374 => (if t374 = true then (if (a0.size : Int) > 1500 then (aD.j0 k a0 a1 true) else (aD.j0 k a0 a1 (decide ((a1.size : Int) > 1500)))) else (none))
theorem aD.calls (k : Nat) (a0 : ByteArray) (a1 : ByteArray) (r : Bool) (w : World) (hG : Gl w) (h : aD.f k a0 a1 = some r) :
  Calls Tryz.prog 5 #[.string a0, .string a1] w fun e w' => e = .returned (.bool r) ∧ Below w.heap.size w w' := by
 have hu40 := Tryz.underlying40; have HB := af.mk (Below.refl w.heap.size w); have H : ((bZ.f k).bind fun t374 => (if t374 = true then (if (a0.size : Int) > 1500 then (aD.j0 k a0 a1 true) else (aD.j0 k a0 a1 (decide ((a1.size : Int) > 1500)))) else (none))) = some r := h; clear h; replace H := bn_ H; obtain ⟨t374, A3, H⟩ := H; (try dsimp only at H); replace H := gb_ H; obtain ⟨rfl, H⟩ := H; have HC5 := af.mk H; clear H
 go_enter Tryz.func5, Tryz.ntmps5
 go_upto_region 3 with (first | ((with_reducible refine aj (f := 6) rfl ?_); refine gk_ (some 14) Tryz.func6 (bZ.calls k  true _ ?side1 A3.1) ?_; (case side1 => exact Gl.below hG (bl_ HB.1)); rintro e w6 ⟨rfl, hb⟩; refine ⟨_, rfl, ?_⟩; have n0_ := af.mk (ah (bl_ HB.1) hb); clear HB; have HB := n0_; clear n0_; (try clear hb); (try clear hb2); (try clear hk); (try clear hi)))
 (try simp only [Act.put, List.setIfInBounds_toArray, List.set_cons_zero, List.set_cons_succ])
 go_cut [23] (fun v23 wc => ∃ (kq : Nat) (x23_4 : Bool), v23 = .bool x23_4 ∧ af (aD.j0 kq a0 a1 x23_4 = some r) ∧ af (kq ≤ k) ∧ af (Below w.heap.size w wc))
 case first =>
  have H := HC5.1; clear HC5; replace H := sp_ H; obtain ⟨c7, H⟩ | ⟨c7, H⟩ := H
  ·
   have c7b0 := decide_eq_true c7; have c7b1 : decide (1500 < a0.size) = true := decide_eq_true (by omega); clear c7
   (first | rw [c7b0] | (simp only [cz, cK]; rw [c7b0]) | skip)
   have H' := af.mk H; clear H
   go_wp2
   go_meet
   case rel => exact ⟨_, (true), sr_, H', ⟨by first | omega | exact Nat.le_refl _⟩, ⟨bl_ HB.1⟩⟩
  have c7b0 := decide_eq_false c7; have c7b1 : decide (1500 < a0.size) = false := decide_eq_false (by omega); clear c7
  (first | rw [c7b0] | (simp only [cz, cK]; rw [c7b0]) | skip)
  have H' := af.mk H; clear H
  go_wp2
  go_meet
  case rel => exact ⟨_, (decide ((a1.size : Int) > 1500)), sr_, H', ⟨by first | omega | exact Nat.le_refl _⟩, ⟨bl_ HB.1⟩⟩
 case rest =>
  clear HC5; (try clear c4); obtain ⟨kq, x23_4, rfl, HA, HJ4, HB⟩ := hcut
  cases kq with
  | zero => exact absurd HA.1 (by simp [aD.j0])
  | succ kj4 =>
   have H := HA.1; clear HA; simp only [aD.j0] at H; replace H := sb_ H; obtain ⟨rfl, H⟩ | ⟨rfl, H⟩ := H
   ·
    obtain rfl := Option.some.inj H
    go_wp2
    go_ret
    exact ⟨er_, bl_ HB.1⟩
   replace H := bn_ H; obtain ⟨⟨t375, t378, t379⟩, A9, H⟩ := H; (try dsimp only at H); replace H := bn_ H; obtain ⟨⟨t381, t384, t385⟩, A10, H⟩ := H; (try dsimp only at H); have HC11 := af.mk H; clear H
   go_upto_region 7 with (first | ((with_reducible refine aj (f := 17) rfl ?_); refine gk_ (some 26) Tryz.func17 (bn.calls kj4 a0 t375 t378 t379 _ A9.1) ?_; rintro e w12 ⟨v376, rfl, ho0, hb⟩; refine ⟨_, rfl, ?_⟩; have n0_ := af.mk (Kd.dB ho0 (bH (bl_ HB.1))); have n1_ := af.mk (ah (bl_ HB.1) hb); clear HB; have HO377 := n0_; have HB := n1_; clear n0_ n1_; (try clear hb); (try clear hb2); (try clear hk); (try clear hi); (try clear ho0)) | ((with_reducible refine aA (N := 6) rfl ?_); (try (refine bE (by rfl) ?_; dsimp only)); refine bx_ (N := 6) (cs := #[.int .i64 0, .int .i64 0]) (t := 40) ?_; intro gb380 hg w13 hbox hb; have n0_ := af.mk (Kd.aW (rR_ HO377.1) hb); have n1_ := af.mk (ah (bl_ HB.1) hb); have n2_ := af.mk (hbox); have n3_ := af.mk (bz_ (w := w) hg (bl_ HB.1)); have n4_ := af.mk (bz_ (w := w) hg (bl_ HB.1)); clear HO377; clear HB; have HO377 := n0_; have HB := n1_; have BK380 := n2_; have GW380 := n3_; have GE380 := n4_; clear n0_ n1_ n2_ n3_ n4_; clear hb hbox hg; obtain ⟨hcz14_0, hcz14_1, hfz14_0, hfz14_1⟩ := cq2_ BK380.1) | ((with_reducible refine aj (f := 17) rfl ?_); refine gk_ (some 31) Tryz.func17 (bn.calls kj4 a1 t381 t384 t385 _ A10.1) ?_; rintro e w15 ⟨v382, rfl, ho0, hb⟩; refine ⟨_, rfl, ?_⟩; have n0_ := af.mk (Kd.iZ (rR_ (Kd.aQ (rf2_ gb380 (Kd.bu HO377.1 BK380.1 (by decide))) (fun _ h_ => h_.1))) (Kd.gY ho0) hb); have n1_ := af.mk (Kd.dB (Kd.gX ho0 (Kd.R_lt (rR_ (Kd.aQ (rf2_ gb380 (Kd.bu HO377.1 BK380.1 (by decide))) (fun _ h_ => h_.1))))) (bH (bl1_ HB.1 GE380.1))); have n2_ := af.mk (aZ (g := gb380) (o := .cells #[.int .i64 t378, .int .i64 t379] 40 (0, 0)) (gU (bk_ BK380.1)) hb); have n3_ := af.mk (ah (bl1_ HB.1 GE380.1) hb); clear HO377; clear BK380; clear HB; have HO377 := n0_; have HO383 := n1_; have BK380 := n2_; have HB := n3_; clear n0_ n1_ n2_ n3_; (try clear hb); (try clear hb2); (try clear hk); (try clear hi); (try clear ho0)) | ((with_reducible refine aA (N := 8) rfl ?_); (try (refine bE (by rfl) ?_; dsimp only)); refine bx_ (N := 8) (cs := #[.int .i64 0, .int .i64 0]) (t := 40) ?_; intro gb386 hg w16 hbox hb; have n0_ := af.mk (Kd.aW (rR_ HO377.1) hb); have n1_ := af.mk (Kd.aW (rR_ HO383.1) hb); have n2_ := af.mk (bb_ BK380.1 hb); have n3_ := af.mk (ah (bl1_ HB.1 GE380.1) hb); have n4_ := af.mk (hbox); have n5_ := af.mk (bz_ (w := w) hg (bl1_ HB.1 GE380.1)); have n6_ := af.mk (bz_ (w := w) hg (bl1_ HB.1 GE380.1)); have n7_ := af.mk (nl_ hg BK380.1); have n8_ := af.mk (ng_ hg BK380.1); clear HO377; clear HO383; clear BK380; clear HB; have HO377 := n0_; have HO383 := n1_; have BK380 := n2_; have HB := n3_; have BK386 := n4_; have GW386 := n5_; have GE386 := n6_; have NB380_386 := n7_; have NB386_380 := n8_; clear n0_ n1_ n2_ n3_ n4_ n5_ n6_ n7_ n8_; clear hb hbox hg; have hnb17 := NB386_380.1; have hnc17 := NB380_386.1; obtain ⟨hcz18_0, hcz18_1, hfz18_0, hfz18_1⟩ := cq2_ BK386.1))
   (try simp only [Act.put, List.setIfInBounds_toArray, List.set_cons_zero, List.set_cons_succ])
   go_cut [9] (fun v9 wc => ∃ (kq : Nat) (x9_10 : Bool), v9 = .bool x9_10 ∧ af (aD.j1 kq a0 a1 x9_10 t378 t379 t384 t385 = some r) ∧ af (kq ≤ kj4) ∧ af (wc.heap[gb380]? = some (.cells #[.int .i64 t378, .int .i64 t379] 40 (0, 0))) ∧ af (wc.heap[gb386]? = some (.cells #[.int .i64 t384, .int .i64 t385] 40 (0, 0))) ∧ af (Below w.heap.size w wc))
   case first =>
    have H := HC11.1; clear HC11; replace H := (sp_ H).symm; obtain ⟨c19, H⟩ | ⟨c19, H⟩ := H
    ·
     have c19b0 := beq_eq_false_iff_ne.mpr c19; have c19b1 := bne_iff_ne.mpr c19
     (first | rw [c19b0] | (simp only [cz, cK]; rw [c19b0]) | skip)
     have H' := af.mk H; clear H; have hnb31 := NB380_386.1; have hnc31 := NB386_380.1; obtain ⟨hcz32_0, hcz32_1, hfz32_0, hfz32_1⟩ := cq2_ BK380.1
     go_wp2
     go_meet
     case rel => exact ⟨_, (false), sr_, H', ⟨by have := HJ4.1; first | omega | exact Nat.le_refl _⟩, ⟨dC (bk_ BK380.1) NB380_386.1⟩, ⟨gU (bk_ BK386.1)⟩, ⟨bl2_ HB.1 GE380.1 GE386.1⟩⟩
    have c19b0 := beq_iff_eq.mpr c19; have c19b1 := bne_eq_false_iff_eq.mpr c19; clear c19
    (first | rw [c19b0] | (simp only [cz, cK]; rw [c19b0]) | skip)
    replace H := (sp_ H).symm; obtain ⟨c20, H⟩ | ⟨c20, H⟩ := H
    ·
     have c20b0 := beq_eq_false_iff_ne.mpr c20; have c20b1 := bne_iff_ne.mpr c20; have H' := af.mk H; clear H; have hnb28 := NB380_386.1; have hnc28 := NB386_380.1; obtain ⟨hcz29_0, hcz29_1, hfz29_0, hfz29_1⟩ := cq2_ BK380.1; obtain ⟨hcz30_0, hcz30_1, hfz30_0, hfz30_1⟩ := cq2_ BK386.1
     go_wp2
     go_meet
     case rel => exact ⟨_, (false), sr_, H', ⟨by have := HJ4.1; first | omega | exact Nat.le_refl _⟩, ⟨dC (bk_ BK380.1) NB380_386.1⟩, ⟨gU (bk_ BK386.1)⟩, ⟨bl2_ HB.1 GE380.1 GE386.1⟩⟩
    have c20b0 := beq_iff_eq.mpr c20; have c20b1 := bne_eq_false_iff_eq.mpr c20; clear c20; replace H := bn_ H; obtain ⟨t387, A21, H⟩ := H; (try dsimp only at H); have H' := af.mk H; clear H; have hnb22 := NB380_386.1; have hnc22 := NB386_380.1; obtain ⟨hcz23_0, hcz23_1, hfz23_0, hfz23_1⟩ := cq2_ BK380.1; obtain ⟨hcz24_0, hcz24_1, hfz24_0, hfz24_1⟩ := cq2_ BK386.1; obtain ⟨Ao25, co25, eo25⟩ := Kd.cO HO377.1; subst eo25; obtain ⟨Ao26, co26, eo26⟩ := Kd.cO HO383.1; subst eo26
    go_wp2_with (first | (go_at_call 18; (with_reducible refine (fA.calls kj4 _ _ t375 _ _ t381 t387 _ ?side1 ?side2 ?side3 ?side4 A21.1).mono ?_); (case side1 => refine (Kd.d9 (e := 25) (base := w.heap.size) (ok := fun k_ => (True ∧ some k_ ≠ (.slice Ao26 t381.length co26 : Value).ownBlock)) (n := t375.length) (c := co25) ?_).2.2; exact (rR_ (Kd.aQ (rf2_ gb386 (Kd.bu HO377.1 BK386.1 (by decide))) (fun _ h_ => h_.1)))); (case side2 => exact (Kd.d9 HO377.1).2.1); (case side3 => refine (Kd.d9 (e := 25) (base := w.heap.size) (ok := fun k_ => (True ∧ some k_ ≠ (.slice Ao25 t375.length co25 : Value).ownBlock)) (n := t381.length) (c := co26) ?_).2.2; exact (rR_ (Kd.aQ (rf2_ gb386 (Kd.bu HO383.1 BK386.1 (by decide))) (fun _ h_ => h_.1)))); (case side4 => exact (Kd.d9 HO383.1).2.1); rintro e w27 ⟨rfl, hb⟩; refine gm (Kd.aW (rR_ (Kd.aQ (rf2_ gb386 (Kd.bu HO377.1 BK386.1 (by decide))) (fun _ h_ => h_.1))) hb) (Kd.aW (rR_ (Kd.aQ (rf2_ gb386 (Kd.bu HO383.1 BK386.1 (by decide))) (fun _ h_ => h_.1))) hb) (aZ (g := gb380) (o := .cells #[.int .i64 t378, .int .i64 t379] 40 (0, 0)) (dC (bk_ BK380.1) NB380_386.1) hb) (aZ (g := gb386) (o := .cells #[.int .i64 t384, .int .i64 t385] 40 (0, 0)) (gU (bk_ BK386.1)) hb) (ah (bl2_ HB.1 GE380.1 GE386.1) hb) ?_; clear HO377 HO383 BK380 BK386 HB; intro HO377 HO383 BK380 BK386 HB; (try clear hb); (try clear hb2); (try clear hk); (try clear hi)))
    go_meet
    case rel => exact ⟨_, (t387), sr_, H', ⟨by have := HJ4.1; first | omega | exact Nat.le_refl _⟩, ⟨bk_ BK380.1⟩, ⟨bk_ BK386.1⟩, ⟨bl2_ HB.1 GE380.1 GE386.1⟩⟩
   case rest =>
    clear HC11; (try clear c4); (try clear c8); (try clear hcz14_0); (try clear hcz14_1); (try clear hcz18_0); (try clear hcz18_1); (try clear hfz14_0); (try clear hfz14_1); (try clear hfz18_0); (try clear hfz18_1); obtain ⟨kq, x9_10, rfl, HA, HJ10, BK380, BK386, HB⟩ := hcut
    cases kq with
    | zero => exact absurd HA.1 (by simp [aD.j1])
    | succ kj10 =>
     have H := HA.1; clear HA; simp only [aD.j1] at H; have HC33 := af.mk H; clear H
     go_upto_region 8 with (fail)
     go_cut [58] (fun v58 wc => ∃ (kq : Nat) (x58_32 : Bool), v58 = .bool x58_32 ∧ af (aD.j2 kq a0 a1 x9_10 x58_32 t378 t379 t384 t385 = some r) ∧ af (kq ≤ kj10) ∧ af (wc.heap[gb380]? = some (.cells #[.int .i64 t378, .int .i64 t379] 40 (0, 0))) ∧ af (wc.heap[gb386]? = some (.cells #[.int .i64 t384, .int .i64 t385] 40 (0, 0))) ∧ af (Below w.heap.size w wc))
     case first =>
      have H := HC33.1; clear HC33; replace H := bn_ H; obtain ⟨t388, A34, H⟩ := H; (try dsimp only at H); replace H := sp_ H; obtain ⟨c35, H⟩ | ⟨c35, H⟩ := H
      ·
       have c35b0 : (t388 != x9_10) = true := c35; (try (have c35b1 : decide (t388 = x9_10) = false := by simpa using c35)); (try (have c35b2 : (t388 == x9_10) = false := by simpa using c35)); (try (have c35b3 : ¬ (t388 = x9_10) := by simpa using c35)); clear c35
       (first | rw [c35b0] | (simp only [cz, cK]; rw [c35b0]) | skip)
       have H' := af.mk H; clear H
       go_wp2_with (first | ((with_reducible refine aj (f := 19) rfl ?_); refine gk_ (some 49) Tryz.func19 (fq.calls kj10 a0 a1 t388 _ A34.1) ?_; rintro e w36 ⟨rfl, hb⟩; refine ⟨_, rfl, ?_⟩; refine fu (bb_ BK380.1 hb) (bb_ BK386.1 hb) (ah (bl2_ HB.1 GE380.1 GE386.1) hb) ?_; clear hb BK380 BK386 HB; intro BK380 BK386 HB))
       go_meet
       case rel => exact ⟨_, (true), sr_, H', ⟨by have := HJ4.1; have := HJ10.1; first | omega | exact Nat.le_refl _⟩, ⟨bk_ BK380.1⟩, ⟨bk_ BK386.1⟩, ⟨bl2_ HB.1 GE380.1 GE386.1⟩⟩
      have c35b0 : (t388 != x9_10) = false := by simpa using c35
      (try (have c35b1 : decide (t388 = x9_10) = true := by simpa using c35)); (try (have c35b2 : (t388 == x9_10) = true := by simpa using c35)); clear c35
      (first | rw [c35b0] | (simp only [cz, cK]; rw [c35b0]) | skip)
      replace H := bn_ H; obtain ⟨t389, A37, H⟩ := H; (try dsimp only at H); have H' := af.mk H; clear H
      go_wp2_with (first | ((with_reducible refine aj (f := 19) rfl ?_); refine gk_ (some 49) Tryz.func19 (fq.calls kj10 a0 a1 t388 _ A34.1) ?_; rintro e w38 ⟨rfl, hb⟩; refine ⟨_, rfl, ?_⟩; refine fu (bb_ BK380.1 hb) (bb_ BK386.1 hb) (ah (bl2_ HB.1 GE380.1 GE386.1) hb) ?_; clear hb BK380 BK386 HB; intro BK380 BK386 HB) | (go_at_call 19; (with_reducible refine (fq.calls kj10 a1 a0 t389 _ A37.1).mono ?_); rintro e w39 ⟨rfl, hb⟩; refine fu (bb_ BK380.1 hb) (bb_ BK386.1 hb) (ah (bl2_ HB.1 GE380.1 GE386.1) hb) ?_; clear BK380 BK386 HB; intro BK380 BK386 HB; (try clear hb); (try clear hb2); (try clear hk); (try clear hi)))
      go_meet
      case rel => exact ⟨_, ((t389 != x9_10)), sr_, H', ⟨by have := HJ4.1; have := HJ10.1; first | omega | exact Nat.le_refl _⟩, ⟨bk_ BK380.1⟩, ⟨bk_ BK386.1⟩, ⟨bl2_ HB.1 GE380.1 GE386.1⟩⟩
     case rest =>
      clear HC33; (try clear c4); (try clear c8); (try clear hcz14_0); (try clear hcz14_1); (try clear hcz18_0); (try clear hcz18_1); (try clear hfz14_0); (try clear hfz14_1); (try clear hfz18_0); (try clear hfz18_1); obtain ⟨kq, x58_32, rfl, HA, HJ32, BK380, BK386, HB⟩ := hcut
      cases kq with
      | zero => exact absurd HA.1 (by simp [aD.j2])
      | succ kj32 =>
       have H := HA.1; clear HA; simp only [aD.j2] at H; replace H := gf_ H; obtain ⟨rfl, H⟩ := H; replace H := bn_ H; obtain ⟨⟨t390, t391, t392⟩, A41, H⟩ := H; (try dsimp only at H); replace H := bn_ H; obtain ⟨⟨t394, t395, t396⟩, A42, H⟩ := H; (try dsimp only at H); replace H := (sp_ H).symm; obtain ⟨c43, H⟩ | ⟨c43, H⟩ := H
       ·
        have c43b0 := beq_eq_false_iff_ne.mpr c43; have c43b1 := bne_iff_ne.mpr c43; obtain rfl := Option.some.inj H
        go_wp2_with (first | ((with_reducible refine aj (f := 20) rfl ?_); refine gk_ (some 61) Tryz.func20 (bC.calls kj32 a0 t390 t391 t392 _ ?side1 A41.1) ?_; (case side1 => exact Gl.below hG (bl2_ HB.1 GE380.1 GE386.1)); rintro e w76 ⟨rfl, hb⟩; refine ⟨_, rfl, ?_⟩; refine fu (bb_ BK380.1 hb) (bb_ BK386.1 hb) (ah (bl2_ HB.1 GE380.1 GE386.1) hb) ?_; clear hb BK380 BK386 HB; intro BK380 BK386 HB) | ((with_reducible refine aA (N := 11) rfl ?_); (try (refine bE (by rfl) ?_; dsimp only)); refine bx_ (N := 11) (cs := #[.int .i64 0, .int .i64 0]) (t := 40) ?_; intro gb393 hg w77 hbox hb; refine jr (bb_ BK380.1 hb) (bb_ BK386.1 hb) (ah (bl2_ HB.1 GE380.1 GE386.1) hb) (hbox) (bz_ (w := w) hg (bl2_ HB.1 GE380.1 GE386.1)) (bz_ (w := w) hg (bl2_ HB.1 GE380.1 GE386.1)) (nl_ hg BK380.1) (ng_ hg BK380.1) (nl_ hg BK386.1) (ng_ hg BK386.1) ?_; clear BK380 BK386 HB; intro BK380 BK386 HB BK393 GW393 GE393 NB380_393 NB393_380 NB386_393 NB393_386; clear hb hbox hg; have hnb78 := NB393_380.1; have hnc78 := NB380_393.1; have hnb79 := NB393_386.1; have hnc79 := NB386_393.1; obtain ⟨hcz80_0, hcz80_1, hfz80_0, hfz80_1⟩ := cq2_ BK393.1) | ((with_reducible refine aj (f := 20) rfl ?_); refine gk_ (some 66) Tryz.func20 (bC.calls kj32 a1 t394 t395 t396 _ ?side1 A42.1) ?_; (case side1 => exact Gl.below hG (bl3_ HB.1 GE380.1 GE386.1 GE393.1)); rintro e w81 ⟨rfl, hb⟩; refine ⟨_, rfl, ?_⟩; refine df (aZ (g := gb380) (o := .cells #[.int .i64 t378, .int .i64 t379] 40 (0, 0)) (dC (bk_ BK380.1) NB380_393.1) hb) (aZ (g := gb386) (o := .cells #[.int .i64 t384, .int .i64 t385] 40 (0, 0)) (dC (bk_ BK386.1) NB386_393.1) hb) (aZ (g := gb393) (o := .cells #[.int .i64 t391, .int .i64 t392] 40 (0, 0)) (gU (bk_ BK393.1)) hb) (ah (bl3_ HB.1 GE380.1 GE386.1 GE393.1) hb) ?_; clear hb BK380 BK386 BK393 HB; intro BK380 BK386 BK393 HB) | ((with_reducible refine aA (N := 13) rfl ?_); (try (refine bE (by rfl) ?_; dsimp only)); refine bx_ (N := 13) (cs := #[.int .i64 0, .int .i64 0]) (t := 40) ?_; intro gb397 hg w82 hbox hb; refine cut13_ (bb_ BK380.1 hb) (bb_ BK386.1 hb) (bb_ BK393.1 hb) (ah (bl3_ HB.1 GE380.1 GE386.1 GE393.1) hb) (hbox) (bz_ (w := w) hg (bl3_ HB.1 GE380.1 GE386.1 GE393.1)) (bz_ (w := w) hg (bl3_ HB.1 GE380.1 GE386.1 GE393.1)) (nl_ hg BK380.1) (ng_ hg BK380.1) (nl_ hg BK386.1) (ng_ hg BK386.1) (nl_ hg BK393.1) (ng_ hg BK393.1) ?_; clear BK380 BK386 BK393 HB; intro BK380 BK386 BK393 HB BK397 GW397 GE397 NB380_397 NB397_380 NB386_397 NB397_386 NB393_397 NB397_393; clear hb hbox hg; have hnb83 := NB397_380.1; have hnc83 := NB380_397.1; have hnb84 := NB397_386.1; have hnc84 := NB386_397.1; have hnb85 := NB397_393.1; have hnc85 := NB393_397.1; obtain ⟨hcz86_0, hcz86_1, hfz86_0, hfz86_1⟩ := cq2_ BK397.1; have hnb87 := NB380_386.1; have hnc87 := NB386_380.1; obtain ⟨hcz88_0, hcz88_1, hfz88_0, hfz88_1⟩ := cq2_ BK380.1))
        go_ret
        exact ⟨er_, bl4_ HB.1 GE380.1 GE386.1 GE393.1 GE397.1⟩
       have c43b0 := beq_iff_eq.mpr c43; have c43b1 := bne_eq_false_iff_eq.mpr c43; clear c43; replace H := (sp_ H).symm; obtain ⟨c44, H⟩ | ⟨c44, H⟩ := H
       ·
        have c44b0 := beq_eq_false_iff_ne.mpr c44; have c44b1 := bne_iff_ne.mpr c44; obtain rfl := Option.some.inj H
        go_wp2_with (first | ((with_reducible refine aj (f := 20) rfl ?_); refine gk_ (some 61) Tryz.func20 (bC.calls kj32 a0 t390 t391 t392 _ ?side1 A41.1) ?_; (case side1 => exact Gl.below hG (bl2_ HB.1 GE380.1 GE386.1)); rintro e w62 ⟨rfl, hb⟩; refine ⟨_, rfl, ?_⟩; refine fu (bb_ BK380.1 hb) (bb_ BK386.1 hb) (ah (bl2_ HB.1 GE380.1 GE386.1) hb) ?_; clear hb BK380 BK386 HB; intro BK380 BK386 HB) | ((with_reducible refine aA (N := 11) rfl ?_); (try (refine bE (by rfl) ?_; dsimp only)); refine bx_ (N := 11) (cs := #[.int .i64 0, .int .i64 0]) (t := 40) ?_; intro gb393 hg w63 hbox hb; refine jr (bb_ BK380.1 hb) (bb_ BK386.1 hb) (ah (bl2_ HB.1 GE380.1 GE386.1) hb) (hbox) (bz_ (w := w) hg (bl2_ HB.1 GE380.1 GE386.1)) (bz_ (w := w) hg (bl2_ HB.1 GE380.1 GE386.1)) (nl_ hg BK380.1) (ng_ hg BK380.1) (nl_ hg BK386.1) (ng_ hg BK386.1) ?_; clear BK380 BK386 HB; intro BK380 BK386 HB BK393 GW393 GE393 NB380_393 NB393_380 NB386_393 NB393_386; clear hb hbox hg; have hnb64 := NB393_380.1; have hnc64 := NB380_393.1; have hnb65 := NB393_386.1; have hnc65 := NB386_393.1; obtain ⟨hcz66_0, hcz66_1, hfz66_0, hfz66_1⟩ := cq2_ BK393.1) | ((with_reducible refine aj (f := 20) rfl ?_); refine gk_ (some 66) Tryz.func20 (bC.calls kj32 a1 t394 t395 t396 _ ?side1 A42.1) ?_; (case side1 => exact Gl.below hG (bl3_ HB.1 GE380.1 GE386.1 GE393.1)); rintro e w67 ⟨rfl, hb⟩; refine ⟨_, rfl, ?_⟩; refine df (aZ (g := gb380) (o := .cells #[.int .i64 t378, .int .i64 t379] 40 (0, 0)) (dC (bk_ BK380.1) NB380_393.1) hb) (aZ (g := gb386) (o := .cells #[.int .i64 t384, .int .i64 t385] 40 (0, 0)) (dC (bk_ BK386.1) NB386_393.1) hb) (aZ (g := gb393) (o := .cells #[.int .i64 t391, .int .i64 t392] 40 (0, 0)) (gU (bk_ BK393.1)) hb) (ah (bl3_ HB.1 GE380.1 GE386.1 GE393.1) hb) ?_; clear hb BK380 BK386 BK393 HB; intro BK380 BK386 BK393 HB) | ((with_reducible refine aA (N := 13) rfl ?_); (try (refine bE (by rfl) ?_; dsimp only)); refine bx_ (N := 13) (cs := #[.int .i64 0, .int .i64 0]) (t := 40) ?_; intro gb397 hg w68 hbox hb; refine cut13_ (bb_ BK380.1 hb) (bb_ BK386.1 hb) (bb_ BK393.1 hb) (ah (bl3_ HB.1 GE380.1 GE386.1 GE393.1) hb) (hbox) (bz_ (w := w) hg (bl3_ HB.1 GE380.1 GE386.1 GE393.1)) (bz_ (w := w) hg (bl3_ HB.1 GE380.1 GE386.1 GE393.1)) (nl_ hg BK380.1) (ng_ hg BK380.1) (nl_ hg BK386.1) (ng_ hg BK386.1) (nl_ hg BK393.1) (ng_ hg BK393.1) ?_; clear BK380 BK386 BK393 HB; intro BK380 BK386 BK393 HB BK397 GW397 GE397 NB380_397 NB397_380 NB386_397 NB397_386 NB393_397 NB397_393; clear hb hbox hg; have hnb69 := NB397_380.1; have hnc69 := NB380_397.1; have hnb70 := NB397_386.1; have hnc70 := NB386_397.1; have hnb71 := NB397_393.1; have hnc71 := NB393_397.1; obtain ⟨hcz72_0, hcz72_1, hfz72_0, hfz72_1⟩ := cq2_ BK397.1; have hnb73 := NB380_386.1; have hnc73 := NB386_380.1; obtain ⟨hcz74_0, hcz74_1, hfz74_0, hfz74_1⟩ := cq2_ BK380.1; obtain ⟨hcz75_0, hcz75_1, hfz75_0, hfz75_1⟩ := cq2_ BK386.1))
        go_ret
        exact ⟨er_, bl4_ HB.1 GE380.1 GE386.1 GE393.1 GE397.1⟩
       have c44b0 := beq_iff_eq.mpr c44; have c44b1 := bne_eq_false_iff_eq.mpr c44; clear c44; replace H := gp_ H; obtain ⟨c45, H⟩ := H; have c45b0 : (t391 == 0 && (t392 == 0)) = true := c45; (try (have c45b1 : decide (t391 = 0 && (t392 == 0)) = true := by simpa using c45)); (try (have c45b2 : (t391 == 0 && (t392 == 0)) = true := by simpa using c45)); clear c45; replace H := gp_ H; obtain ⟨c46, H⟩ := H; have c46b0 : (t395 == 0 && (t396 == 0)) = true := c46; (try (have c46b1 : decide (t395 = 0 && (t396 == 0)) = true := by simpa using c46)); (try (have c46b2 : (t395 == 0 && (t396 == 0)) = true := by simpa using c46)); clear c46; obtain rfl := Option.some.inj H
       go_wp2_with (first | ((with_reducible refine aj (f := 20) rfl ?_); refine gk_ (some 61) Tryz.func20 (bC.calls kj32 a0 t390 t391 t392 _ ?side1 A41.1) ?_; (case side1 => exact Gl.below hG (bl2_ HB.1 GE380.1 GE386.1)); rintro e w47 ⟨rfl, hb⟩; refine ⟨_, rfl, ?_⟩; refine fu (bb_ BK380.1 hb) (bb_ BK386.1 hb) (ah (bl2_ HB.1 GE380.1 GE386.1) hb) ?_; clear hb BK380 BK386 HB; intro BK380 BK386 HB) | ((with_reducible refine aA (N := 11) rfl ?_); (try (refine bE (by rfl) ?_; dsimp only)); refine bx_ (N := 11) (cs := #[.int .i64 0, .int .i64 0]) (t := 40) ?_; intro gb393 hg w48 hbox hb; refine jr (bb_ BK380.1 hb) (bb_ BK386.1 hb) (ah (bl2_ HB.1 GE380.1 GE386.1) hb) (hbox) (bz_ (w := w) hg (bl2_ HB.1 GE380.1 GE386.1)) (bz_ (w := w) hg (bl2_ HB.1 GE380.1 GE386.1)) (nl_ hg BK380.1) (ng_ hg BK380.1) (nl_ hg BK386.1) (ng_ hg BK386.1) ?_; clear BK380 BK386 HB; intro BK380 BK386 HB BK393 GW393 GE393 NB380_393 NB393_380 NB386_393 NB393_386; clear hb hbox hg; have hnb49 := NB393_380.1; have hnc49 := NB380_393.1; have hnb50 := NB393_386.1; have hnc50 := NB386_393.1; obtain ⟨hcz51_0, hcz51_1, hfz51_0, hfz51_1⟩ := cq2_ BK393.1) | ((with_reducible refine aj (f := 20) rfl ?_); refine gk_ (some 66) Tryz.func20 (bC.calls kj32 a1 t394 t395 t396 _ ?side1 A42.1) ?_; (case side1 => exact Gl.below hG (bl3_ HB.1 GE380.1 GE386.1 GE393.1)); rintro e w52 ⟨rfl, hb⟩; refine ⟨_, rfl, ?_⟩; refine df (aZ (g := gb380) (o := .cells #[.int .i64 t378, .int .i64 t379] 40 (0, 0)) (dC (bk_ BK380.1) NB380_393.1) hb) (aZ (g := gb386) (o := .cells #[.int .i64 t384, .int .i64 t385] 40 (0, 0)) (dC (bk_ BK386.1) NB386_393.1) hb) (aZ (g := gb393) (o := .cells #[.int .i64 t391, .int .i64 t392] 40 (0, 0)) (gU (bk_ BK393.1)) hb) (ah (bl3_ HB.1 GE380.1 GE386.1 GE393.1) hb) ?_; clear hb BK380 BK386 BK393 HB; intro BK380 BK386 BK393 HB) | ((with_reducible refine aA (N := 13) rfl ?_); (try (refine bE (by rfl) ?_; dsimp only)); refine bx_ (N := 13) (cs := #[.int .i64 0, .int .i64 0]) (t := 40) ?_; intro gb397 hg w53 hbox hb; refine cut13_ (bb_ BK380.1 hb) (bb_ BK386.1 hb) (bb_ BK393.1 hb) (ah (bl3_ HB.1 GE380.1 GE386.1 GE393.1) hb) (hbox) (bz_ (w := w) hg (bl3_ HB.1 GE380.1 GE386.1 GE393.1)) (bz_ (w := w) hg (bl3_ HB.1 GE380.1 GE386.1 GE393.1)) (nl_ hg BK380.1) (ng_ hg BK380.1) (nl_ hg BK386.1) (ng_ hg BK386.1) (nl_ hg BK393.1) (ng_ hg BK393.1) ?_; clear BK380 BK386 BK393 HB; intro BK380 BK386 BK393 HB BK397 GW397 GE397 NB380_397 NB397_380 NB386_397 NB397_386 NB393_397 NB397_393; clear hb hbox hg; have hnb54 := NB397_380.1; have hnc54 := NB380_397.1; have hnb55 := NB397_386.1; have hnc55 := NB386_397.1; have hnb56 := NB397_393.1; have hnc56 := NB393_397.1; obtain ⟨hcz57_0, hcz57_1, hfz57_0, hfz57_1⟩ := cq2_ BK397.1; have hnb58 := NB380_386.1; have hnc58 := NB386_380.1; obtain ⟨hcz59_0, hcz59_1, hfz59_0, hfz59_1⟩ := cq2_ BK380.1; obtain ⟨hcz60_0, hcz60_1, hfz60_0, hfz60_1⟩ := cq2_ BK386.1; obtain ⟨hcz61_0, hcz61_1, hfz61_0, hfz61_1⟩ := cq2_ BK393.1))
       go_ret
       exact ⟨er_, bl4_ HB.1 GE380.1 GE386.1 GE393.1 GE397.1⟩
def aD.Pure : Prop := ∀ (a0 : ByteArray) (a1 : ByteArray), a0.size ≤ 140737488351232 → a1.size ≤ 140737488351232 → ∃ k, aD.f k a0 a1 = some true
theorem aD.walk (P : aD.Pure) (a0 : ByteArray) (a1 : ByteArray) (w : World) (hG : Gl w) (w0 : a0.size ≤ 140737488351232) (w1 : a1.size ≤ 140737488351232) :
  Calls Tryz.prog 5 #[.string a0, .string a1] w fun e w' => e = .returned (.bool true) ∧ Below w.heap.size w w' := by
 obtain ⟨k, h⟩ := P a0 a1 w0 w1
 refine (aD.calls k a0 a1 true w hG h).mono ?_
 rintro e w' ⟨rfl, hd⟩
 exact ⟨rfl, hd⟩
end Go.Proofs.YtkifdadhojbohaaGreatDoor.Pr
namespace Go.Proofs.YtkifdadhojbohaaGreatDoor.Pu
open Go.RowKit Go.Proofs.YtkifdadhojbohaaGreatDoor Go.Proofs.YtkifdadhojbohaaGreatDoor.Pr Go.Proofs.YtkifdadhojbohaaGreatDoorW.PrintWords Go.Proofs.YtkifdadhojbohaaGreatDoorW.PrintLast Go.Proofs.YtkifdadhojbohaaGreatDoorW.PrintMore
theorem pEqual_r (a b : ByteArray) (ha : a.size ≤ 1500) (hb : b.size ≤ 1500) {x y : List S41 × Int × Int} (hx : PA a x) (hy : PA b y) (s : Bool) (hs : s = true ↔ x.2.1 = 0 ∧ y.2.1 = 0 ∧ SmL false x.1 y.1) : Ev (fun k => fq.f k a b) s := by
  unfold fq.f
  refine Ev.bind (kI a (by omega) hx) (Ev.bind (kI b (by omega) hy) ?_)
  by_cases h1 : x.2.1 = 0
  · refine Ev.ifp h1 ?_
    by_cases h2 : y.2.1 = 0
    · obtain ⟨cs, c, o⟩ := x
      obtain rfl : c = 0 := h1
      obtain ⟨us, k1, k2, k3_, k4⟩ := hx.facts (by omega)
      exact Ev.ifp h2 (Ev.bind (Same_r cs y.1 (by omega) s ⟨fun h => (hs.1 h).2.2, fun h => hs.2 ⟨rfl, h2, h⟩⟩) (Ev.now _))
    · exact Ev.ifn h2 (Ev.ret (jk hs fun h => h2 h.2.1))
  · exact Ev.ifn h1 (Ev.ret (jk hs fun h => h1 h.1))
theorem lF (s : ByteArray) (hs : s.size ≤ 1500) {cs : List S41} {o : Int} (h : PA s (cs, 0, o)) : Ev (fun k => bC.f k s) (str (srcL 0 cs), 0, 0) := by
  obtain ⟨us, k1, k2, k3_, k4, k5, k6, k7, k8, k9, rfl⟩ := h.facts (by omega)
  have hfit := src_fits hs h
  have hp := Print_f cs (by omega) k7
  rw [show printA cs = (str (srcL 0 cs), 0) by unfold printA; rw [if_pos k8, if_neg (by omega)]] at hp
  unfold bC.f
  exact Ev.bind (kI s (by omega) h) (Ev.ifp rfl (Ev.bind hp (Ev.ifp rfl (Ev.now _))))
theorem lG (s : ByteArray) (hs : s.size ≤ 1500) {y : List S41 × Int × Int} (h : PA s y) (hc : ¬ y.2.1 = 0) : Ev (fun k => bC.f k s) ((⟨#[]⟩ : ByteArray), y.2.1, y.2.2) := by
  unfold bC.f
  exact Ev.bind (kI s (by omega) h) (Ev.ifn hc (Ev.now _))
theorem Normal_any (s : ByteArray) (hs : s.size ≤ 1500) {y : List S41 × Int × Int} (h : PA s y) : ∃ v, Ev (fun k => bC.f k s) v := by
  by_cases hc : y.2.1 = 0
  · obtain ⟨cs, c, o⟩ := y
    obtain rfl : c = 0 := hc
    exact ⟨_, lF s hs h⟩
  · exact ⟨_, lG s hs h hc⟩
theorem src_iff {a b : ByteArray} (ha : a.size ≤ 1500) (hb : b.size ≤ 1500) {cs ds : List S41} {o u : Int} (hx : PA a (cs, 0, o)) (hy : PA b (ds, 0, u)) : srcL 0 cs = srcL 0 ds ↔ SmL false cs ds := by
  constructor
  · intro h
    obtain ⟨us, k1, k2, k3_, k4, k5, k6, k7, k8, k9, rfl⟩ := hx.facts (by omega)
    obtain ⟨vs, j1, j2, j3, j4, j5, j6, j7, j8, j9, rfl⟩ := hy.facts (by omega)
    have hfit := src_fits ha hx
    obtain ⟨es, z1, z2⟩ := PA_src cs k6 k4 (by omega)
    obtain ⟨fs, y1, y2⟩ := PA_src ds j6 j4 (by omega)
    rw [← h] at y2
    have hlen : (str (srcL 0 cs)).size ≤ 65536 := by rw [dY]; omega
    have := Ev.unique (kI _ hlen z2) (kI _ hlen y2)
    injection this with e _
    rw [← e] at y1
    exact z1.symm.trans y1
  · intro h
    exact src_same h 0
theorem printerEqual : aD.Pure := by
  intro a b _ _
  apply Ev.rounds
  unfold aD.f
  refine Ev.bind awake11_f (Ev.ifp rfl ?_)
  have big : ∀ c, c = true → Ev (fun k => aD.j0 k a b c) true := by
    intro c hc
    refine Ev.succ ?_
    simp only [aD.j0]
    exact Ev.ifp hc (Ev.now _)
  by_cases ha : (a.size : Int) > 1500
  · exact Ev.ifp ha (big true rfl)
  · refine Ev.ifn ha ?_
    by_cases hb : (b.size : Int) > 1500
    · exact big _ (decide_eq_true hb)
    · have hna : a.size ≤ 1500 := by omega
      have hnb : b.size ≤ 1500 := by omega
      refine Ev.succ ?_
      simp only [aD.j0]
      refine Ev.ifn (by rw [decide_eq_true_iff]; exact hb) ?_
      obtain ⟨x, hx⟩ := PA.ex a
      obtain ⟨y, hy⟩ := PA.ex b
      obtain ⟨s, hs⟩ := lC (x.2.1 = 0 ∧ y.2.1 = 0 ∧ SmL false x.1 y.1)
      have hab := pEqual_r a b hna hnb hx hy s hs
      have hba := pEqual_r b a hnb hna hy hx s ⟨fun h => ⟨(hs.1 h).2.1, (hs.1 h).1, (hs.1 h).2.2.symm⟩, fun h => hs.2 ⟨h.2.1, h.1, h.2.2.symm⟩⟩
      have fin : Ev (fun k => aD.j1 k a b s x.2.1 x.2.2 y.2.1 y.2.2) true := by
        refine Ev.succ ?_
        simp only [aD.j1]
        refine Ev.bind hab (Ev.ifn (by simp) (Ev.bind hba (Ev.succ ?_)))
        simp only [aD.j2]
        refine Ev.ifn (by simp) ?_
        by_cases h1 : x.2.1 = 0
        · obtain ⟨cs, c, o⟩ := x
          obtain rfl : c = 0 := h1
          refine Ev.bind (lF a hna hx) ?_
          by_cases h2 : y.2.1 = 0
          · obtain ⟨ds, d, u⟩ := y
            obtain rfl : d = 0 := h2
            refine Ev.bind (lF b hnb hy) (Ev.ifp rfl (Ev.ifp rfl (Ev.ifp rfl (Ev.ifp rfl (Ev.ret ?_)))))
            rw [beq_iff_eq, Bool.eq_iff_iff, hs, beq_iff_eq, tl_iff]
            rw [show (str (srcL 0 cs) = str (srcL 0 ds)) ↔ srcL 0 cs = srcL 0 ds from ⟨fun h => by simpa using congrArg lst h, fun h => by rw [h]⟩, src_iff hna hnb hx hy]
            exact ⟨fun h => ⟨rfl, rfl, h⟩, fun h => h.2.2⟩
          · exact Ev.bind (lG b hnb hy h2) (Ev.ifp rfl (Ev.ifn h2 (Ev.now _)))
        · obtain ⟨v, hv⟩ := Normal_any b hnb hy
          exact Ev.bind (lG a hna hx h1) (Ev.bind hv (Ev.ifn h1 (Ev.now _)))
      refine Ev.bind (rParse_f a (by omega) hx) (Ev.bind (rParse_f b (by omega) hy) ?_)
      by_cases h1 : x.2.1 = 0
      · refine Ev.ifp h1 ?_
        by_cases h2 : y.2.1 = 0
        · refine Ev.ifp h2 (Ev.bind (a := s) ?_ fin)
          obtain ⟨cs, c, o⟩ := x
          obtain rfl : c = 0 := h1
          obtain ⟨us, k1, k2, k3_, k4⟩ := hx.facts (by omega)
          exact rSame_r cs y.1 (by omega) s ⟨fun h => (hs.1 h).2.2, fun h => hs.2 ⟨rfl, h2, h⟩⟩
        · refine Ev.ifn h2 ?_
          rw [jk hs fun h => h2 h.2.1]
          exact fin
      · refine Ev.ifn h1 ?_
        rw [jk hs fun h => h1 h.1]
        exact fin
end Go.Proofs.YtkifdadhojbohaaGreatDoor.Pu
namespace Go.Proofs.YtkifdadhojbohaaGreatDoor.printerEqual
open Go.ChangeShapes Go.WideShapes Go.ChangeAt Go.RowKit Rk
open Go.ChangeMaps (open_string shut_string)
theorem c09 : (Rows.printerEqualRow.inPlace == Tryz.prog.inPlace 5) = true := by kernel_rfl
theorem c10 : (Rows.printerEqualRow.unfollowed == Tryz.prog.unfollowed 5) = true := by kernel_rfl
theorem c11 : (Rows.printerEqualRow.recurses == Tryz.prog.recurses 5) = true := by kernel_rfl
theorem c12 : (Rows.printerEqualRow.named == Tryz.prog.varsNamed 5) = true := by kernel_rfl
theorem facts : joinedFacts Tryz.prog 5 Tryz.f5 Rows.printerEqualSpec Rows.printerEqualRow = true :=
  facts_of _ _ _ _ _ (by kernel_rfl) out_ rowed_ (by kernel_rfl) (by kernel_rfl) rfl (by kernel_rfl) rfl (by kernel_rfl) c09 c10 c11 c12 (by kernel_rfl) (by kernel_rfl) (by kernel_rfl) (by kernel_rfl) (by kernel_rfl)
    (by kernel_rfl) (by kernel_rfl) (by kernel_rfl) (by kernel_rfl) (by kernel_rfl) (by kernel_rfl) heard_ enter_ (by kernel_rfl) (by kernel_rfl) (by kernel_rfl) (by kernel_rfl) (by kernel_rfl) (by kernel_rfl)
theorem goes : false = Rows.printerEqualRow.goesBy Tryz.prog := by kernel_rfl
theorem lifted (os : Os) (started : os.Started) (H : Type) (enc : TypeId × Value → H) :
    ReturnsInHanded {} Tryz.checked os 5 .any (fun w args => (Rows.printerEqualSpec.pre enc Tryz.prog Tryz.f5 [] false w args ∧ laidMetH Tryz.prog laidB w) ∧ sizedMet enc Tryz.prog Tryz.f5 (OpenSpec.ofChange Rows.printerEqualSpec) false w args)
      (Rows.printerEqualSpec.post enc Tryz.prog Tryz.f5 false true false false) := by
  refine returnsInHanded_of_change_and (C := Tryz.checked) (X := fun w _ => laidMetH Tryz.prog laidB w) (fun _ _ _ hh h => h.of_heap hh) own started (by kernel_rfl) Tryz.func5
    (ChangeSpec.witness_shaped (enc := enc) (C := Tryz.checked) (os := os) (X := fun w _ => laidMetH Tryz.prog laidB w) false (wB os) #[.string ByteArray.empty, .string ByteArray.empty] 8 (World.laidAll_os _ _ _)
      (World.shaped_of_ZipB (by kernel_rfl) (by kernel_rfl)) (by kernel_rfl) (by kernel_rfl) (by kernel_rfl) (met_B os _)) ?_
  intro W base args ds gs before hval0 hW _ hsz0 hL _
  have hsz : (DataW.weightsEach Tryz.prog (Tryz.f5.params.toList ++ Rows.printerEqualSpec.plain.varTypes Tryz.prog) (ds ++ gs)).all (· ≤ reachBytes) = true := hsz0
  have hval : ∀ (j : Nat) t v, Tryz.f5.params[j]? = some t → args[j]? = some v → Value.okWide Tryz.prog W .any base t v := hval0
  have hW' := hW
  obtain ⟨p, q, hA0, hV, rfl, _, _⟩ := hW
  have hA : DataW.TrodAll enc Tryz.prog W 0 (fun _ => true) true Tryz.f5.params.toList args.toList ds p := hA0
  rw [Tryz.params5] at hA hval hsz
  obtain ⟨v0, vs0, d0, ds0, p0, q0, hargs, rfl, rfl, h0, r0⟩ := trodAll_cons hA
  obtain ⟨v1, vs1, d1, ds1, p1, q1, rfl, rfl, rfl, h1, r1⟩ := trodAll_cons r0
  obtain ⟨rfl, rfl, rfl⟩ := trodAll_nil r1
  obtain rfl : args = #[v0, v1] := by cases args; simp_all
  obtain ⟨rfl, rfl⟩ := trodVars_none hV
  obtain ⟨a0, rfl, rfl, rfl, y0⟩ := open_string Tryz.underlying9 (hval 0 9 v0 rfl rfl) h0
  have w0 : a0.size ≤ 140737488351232 := by
    have z := sized_string hsz (j := 0) (t := 9) rfl rfl
    rw [Array.length_toList] at z
    exact z
  obtain ⟨a1, rfl, rfl, rfl, y1⟩ := open_string Tryz.underlying9 (hval 1 9 v1 rfl rfl) h1
  have w1 : a1.size ≤ 140737488351232 := by
    have z := sized_string hsz (j := 1) (t := 9) rfl rfl
    rw [Array.length_toList] at z
    exact z
  clear hA0 hval0 hsz0 hsz
  refine (Pr.aD.walk Pu.printerEqual a0 a1 W (gl_B hL) w0 w1).mono fun e W' ⟨he, bel⟩ => ?_
  subst he
  exact ⟨_, rfl, _, _, _, [], _, [], hW', trodAll_mk1 (shut_bool Tryz.underlying4 _), (trodAll_cons_mk (shut_string Tryz.underlying9 y0) (trodAll_cons_mk (shut_string Tryz.underlying9 y1) trodAll_mk0)), rfl, bel.frame _, fun h => by cases h⟩
theorem over : Rows.printerEqualRow.holds Tryz.pinned (OpenSpec.ofChange Rows.printerEqualSpec) :=
  OpenClaim.holds_of_wide 5 Tryz.f5 rfl rfl rfl rfl rfl rfl rfl ⟨rfl, rfl, rfl, rfl, rfl⟩ rfl rfl rfl rfl rfl (by kernel_rfl) Tryz.func5 facts
    (of_decide_eq_true (by kernel_rfl)) (by unfold Func.isWrapper; first | (rw [if_pos (by decide +kernel)]; kernel_rfl) | (rw [if_neg (by decide +kernel)]; exact ⟨rfl, rfl⟩))
    (fun os started H enc _ => lifted os started H enc)
theorem card : Rows.PrinterEqualCardSaid :=
  Claim7.holds_tied_plain_at .later [] [.data, .data, .data, .data, .sentinel, .sentinel, .pinned] true (true, "91c84e077da0f3e7c89b9306fb49b5e0abee8c509dffb0b85426471aa589cd61") true
    over (fun _ h => by cases h) (by kernel_rfl) (fun _ h => by cases h) printerEqual_row_tie rfl ⟨rfl, rfl⟩ mainIs_ rfl
    (fun f fn hf hfn => by
      obtain rfl : f = 5 := Option.some.inj ((show Tryz.prog.funcNamed "salchow/salchowlaw11.PrinterEqual" = some 5 by kernel_rfl).symm.trans hf) |>.symm
      obtain rfl : fn = Tryz.f5 := (Option.some.inj (Tryz.func5.symm.trans hfn)).symm
      exact ⟨looks_, fun j t ht => by
        rw [Tryz.params5] at ht
        have hm : t ∈ [9, 9] := by simpa using Array.mem_of_getElem? ht
        have hall : ([9, 9].all fun u => !Tryz.prog.wantsStandIn u) = true := by kernel_rfl
        exact (show Tryz.prog.wantsStandIn t = false by simpa using List.all_eq_true.1 hall t hm)⟩)
    goes
#print axioms card
end Go.Proofs.YtkifdadhojbohaaGreatDoor.printerEqual
