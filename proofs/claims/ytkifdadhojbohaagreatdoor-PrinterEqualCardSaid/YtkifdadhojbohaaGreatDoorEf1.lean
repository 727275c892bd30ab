/- Joined out of the texts of this proof that bear the names PrF80 PrF79 PrF115 PrF116 PrF93 PrF94 PrF95 PrF96 PrF117 PrF97 PrF66 PrF42 PrF33: what each shows stands over it there. -/
import Derived.Test.YtkifdadhojbohaaGreatDoorEk1
import Derived.Test.YtkifdadhojbohaaGreatDoorEc1
set_option linter.unusedVariables false
set_option linter.unusedSimpArgs false
set_option maxHeartbeats 8000000
set_option maxRecDepth 100000
namespace Go.Proofs.YtkifdadhojbohaaGreatDoor.Pr
open Go.Proofs.YtkifdadhojbohaaGreatDoor
open Go.RowKit Go.Proofs.YtkifdadhojbohaaGreatDoorW.PrintWords Go.Proofs.YtkifdadhojbohaaGreatDoorW.PrintLast Go.Proofs.YtkifdadhojbohaaGreatDoorW.PrintMore
attribute [local go_sem] fU fQ gL gK eT eQ fT fP
def bg.f (a0_0 : Int) (a0_1 : ByteArray) (a0_2 : Int) (a0_3 : Int) (a1 : ByteArray) : Option (Bool) := if a0_0 = 4 then (some (a0_1.toList == a1.toList)) else (some false)
theorem bg.calls (a0_0 : Int) (a0_1 : ByteArray) (a0_2 : Int) (a0_3 : Int) (a1 : ByteArray) (r : Bool) (w : World) (h : bg.f a0_0 a0_1 a0_2 a0_3 a1 = some r) :
  Calls Tryz.prog 50 #[.agg #[.int .i64 a0_0, .string a0_1, .int .i64 a0_2, .int .i64 a0_3], .string a1] w fun e w' => e = .returned (.bool r) ∧ Below w.heap.size w w' := by
 have hu46 := Tryz.underlying50; have HB := af.mk (Below.refl w.heap.size w); have H : (if a0_0 = 4 then (some (a0_1.toList == a1.toList)) else (some false)) = some r := h; clear h; replace H := (sp_ H).symm; obtain ⟨c3, H⟩ | ⟨c3, H⟩ := H
 ·
  have c3b0 := beq_eq_false_iff_ne.mpr c3; have c3b1 := bne_iff_ne.mpr c3; obtain rfl := Option.some.inj H
  go_enter Tryz.func50, Tryz.ntmps50
  go_wp2_with (first | ((with_reducible refine aA (N := 2) rfl ?_); refine bx_ (N := 2) (cs := #[.int .i64 a0_0, .string a0_1, .int .i64 a0_2, .int .i64 a0_3]) (t := 50) ?_; intro gb246 hg w6 hbox hb; refine df (ah (bl_ HB.1) hb) (hbox) (bz_ (w := w) hg (bl_ HB.1)) (bz_ (w := w) hg (bl_ HB.1)) ?_; clear HB; intro HB BK246 GW246 GE246; clear hb hbox hg; obtain ⟨hcz7_0, hcz7_1, hcz7_2, hcz7_3, hfz7_0, hfz7_1, hfz7_2, hfz7_3⟩ := cq4_ BK246.1))
  go_ret
  exact ⟨er_, bl1_ HB.1 GE246.1⟩
 have c3b0 := beq_iff_eq.mpr c3; have c3b1 := bne_eq_false_iff_eq.mpr c3; clear c3; obtain rfl := Option.some.inj H
 go_enter Tryz.func50, Tryz.ntmps50
 go_wp2_with (first | ((with_reducible refine aA (N := 2) rfl ?_); refine bx_ (N := 2) (cs := #[.int .i64 a0_0, .string a0_1, .int .i64 a0_2, .int .i64 a0_3]) (t := 50) ?_; intro gb246 hg w4 hbox hb; refine df (ah (bl_ HB.1) hb) (hbox) (bz_ (w := w) hg (bl_ HB.1)) (bz_ (w := w) hg (bl_ HB.1)) ?_; clear HB; intro HB BK246 GW246 GE246; clear hb hbox hg; obtain ⟨hcz5_0, hcz5_1, hcz5_2, hcz5_3, hfz5_0, hfz5_1, hfz5_2, hfz5_3⟩ := cq4_ BK246.1))
 go_ret
 exact ⟨er_, bl1_ HB.1 GE246.1⟩
def dm.f (a0_0 : Int) (a0_1 : ByteArray) (a0_2 : Int) (a0_3 : Int) : Option (Bool) := if a0_0 = 5 then (some false) else ((bg.f a0_0 a0_1 a0_2 a0_3 (⟨#[59]⟩ : ByteArray)).bind fun t248 => (if t248 = true then (some false) else ((bg.f a0_0 a0_1 a0_2 a0_3 (⟨#[123]⟩ : ByteArray)).bind fun t249 => (if t249 = true then (some false) else ((bg.f a0_0 a0_1 a0_2 a0_3 (⟨#[125]⟩ : ByteArray)).bind fun t250 => (some (!t250)))))))
theorem dm.calls (a0_0 : Int) (a0_1 : ByteArray) (a0_2 : Int) (a0_3 : Int) (r : Bool) (w : World) (h : dm.f a0_0 a0_1 a0_2 a0_3 = some r) :
  Calls Tryz.prog 46 #[.agg #[.int .i64 a0_0, .string a0_1, .int .i64 a0_2, .int .i64 a0_3]] w fun e w' => e = .returned (.bool r) ∧ Below w.heap.size w w' := by
 have hu46 := Tryz.underlying50; have HB := af.mk (Below.refl w.heap.size w); have H : (if a0_0 = 5 then (some false) else ((bg.f a0_0 a0_1 a0_2 a0_3 (⟨#[59]⟩ : ByteArray)).bind fun t248 => (if t248 = true then (some false) else ((bg.f a0_0 a0_1 a0_2 a0_3 (⟨#[123]⟩ : ByteArray)).bind fun t249 => (if t249 = true then (some false) else ((bg.f a0_0 a0_1 a0_2 a0_3 (⟨#[125]⟩ : ByteArray)).bind fun t250 => (some (!t250)))))))) = some r := h; clear h; replace H := sp_ H; obtain ⟨c2, H⟩ | ⟨c2, H⟩ := H
 ·
  have c2b0 := beq_iff_eq.mpr c2; have c2b1 := bne_eq_false_iff_eq.mpr c2; clear c2; obtain rfl := Option.some.inj H
  go_enter Tryz.func46, Tryz.ntmps46
  go_wp2_with (first | ((with_reducible refine aA (N := 1) rfl ?_); refine bx_ (N := 1) (cs := #[.int .i64 a0_0, .string a0_1, .int .i64 a0_2, .int .i64 a0_3]) (t := 50) ?_; intro gb247 hg w3 hbox hb; refine df (ah (bl_ HB.1) hb) (hbox) (bz_ (w := w) hg (bl_ HB.1)) (bz_ (w := w) hg (bl_ HB.1)) ?_; clear HB; intro HB BK247 GW247 GE247; clear hb hbox hg; obtain ⟨hcz4_0, hcz4_1, hcz4_2, hcz4_3, hfz4_0, hfz4_1, hfz4_2, hfz4_3⟩ := cq4_ BK247.1))
  go_ret
  exact ⟨er_, bl1_ HB.1 GE247.1⟩
 have c2b0 := beq_eq_false_iff_ne.mpr c2; have c2b1 := bne_iff_ne.mpr c2; replace H := bn_ H; obtain ⟨t248, A5, H⟩ := H; (try dsimp only at H); replace H := sb_ H; obtain ⟨rfl, H⟩ | ⟨rfl, H⟩ := H
 ·
  obtain rfl := Option.some.inj H
  go_enter Tryz.func46, Tryz.ntmps46
  go_wp2_with (first | ((with_reducible refine aA (N := 1) rfl ?_); refine bx_ (N := 1) (cs := #[.int .i64 a0_0, .string a0_1, .int .i64 a0_2, .int .i64 a0_3]) (t := 50) ?_; intro gb247 hg w7 hbox hb; refine df (ah (bl_ HB.1) hb) (hbox) (bz_ (w := w) hg (bl_ HB.1)) (bz_ (w := w) hg (bl_ HB.1)) ?_; clear HB; intro HB BK247 GW247 GE247; clear hb hbox hg; obtain ⟨hcz8_0, hcz8_1, hcz8_2, hcz8_3, hfz8_0, hfz8_1, hfz8_2, hfz8_3⟩ := cq4_ BK247.1) | (go_at_call 50; (with_reducible refine (bg.calls a0_0 a0_1 a0_2 a0_3 (⟨#[59]⟩ : ByteArray) true _ A5.1).mono ?_); rintro e w9 ⟨rfl, hb⟩; refine fK (bb_ BK247.1 hb) (ah (bl1_ HB.1 GE247.1) hb) ?_; clear BK247 HB; intro BK247 HB; (try clear hb); (try clear hb2); (try clear hk); (try clear hi)))
  go_ret
  exact ⟨er_, bl1_ HB.1 GE247.1⟩
 replace H := bn_ H; obtain ⟨t249, A10, H⟩ := H; (try dsimp only at H); replace H := sb_ H; obtain ⟨rfl, H⟩ | ⟨rfl, H⟩ := H
 ·
  obtain rfl := Option.some.inj H
  go_enter Tryz.func46, Tryz.ntmps46
  go_wp2_with (first | ((with_reducible refine aA (N := 1) rfl ?_); refine bx_ (N := 1) (cs := #[.int .i64 a0_0, .string a0_1, .int .i64 a0_2, .int .i64 a0_3]) (t := 50) ?_; intro gb247 hg w12 hbox hb; refine df (ah (bl_ HB.1) hb) (hbox) (bz_ (w := w) hg (bl_ HB.1)) (bz_ (w := w) hg (bl_ HB.1)) ?_; clear HB; intro HB BK247 GW247 GE247; clear hb hbox hg; obtain ⟨hcz13_0, hcz13_1, hcz13_2, hcz13_3, hfz13_0, hfz13_1, hfz13_2, hfz13_3⟩ := cq4_ BK247.1) | (go_at_call 50; (with_reducible refine (bg.calls a0_0 a0_1 a0_2 a0_3 (⟨#[59]⟩ : ByteArray) false _ A5.1).mono ?_); rintro e w14 ⟨rfl, hb⟩; refine fK (bb_ BK247.1 hb) (ah (bl1_ HB.1 GE247.1) hb) ?_; clear BK247 HB; intro BK247 HB; (try clear hb); (try clear hb2); (try clear hk); (try clear hi); obtain ⟨hcz15_0, hcz15_1, hcz15_2, hcz15_3, hfz15_0, hfz15_1, hfz15_2, hfz15_3⟩ := cq4_ BK247.1) | (go_at_call 50; (with_reducible refine (bg.calls a0_0 a0_1 a0_2 a0_3 (⟨#[123]⟩ : ByteArray) true _ A10.1).mono ?_); rintro e w16 ⟨rfl, hb⟩; refine fK (bb_ BK247.1 hb) (ah (bl1_ HB.1 GE247.1) hb) ?_; clear BK247 HB; intro BK247 HB; (try clear hb); (try clear hb2); (try clear hk); (try clear hi)))
  go_ret
  exact ⟨er_, bl1_ HB.1 GE247.1⟩
 replace H := bn_ H; obtain ⟨t250, A17, H⟩ := H; (try dsimp only at H); obtain rfl := Option.some.inj H
 go_enter Tryz.func46, Tryz.ntmps46
 go_wp2_with (first | ((with_reducible refine aA (N := 1) rfl ?_); refine bx_ (N := 1) (cs := #[.int .i64 a0_0, .string a0_1, .int .i64 a0_2, .int .i64 a0_3]) (t := 50) ?_; intro gb247 hg w18 hbox hb; refine df (ah (bl_ HB.1) hb) (hbox) (bz_ (w := w) hg (bl_ HB.1)) (bz_ (w := w) hg (bl_ HB.1)) ?_; clear HB; intro HB BK247 GW247 GE247; clear hb hbox hg; obtain ⟨hcz19_0, hcz19_1, hcz19_2, hcz19_3, hfz19_0, hfz19_1, hfz19_2, hfz19_3⟩ := cq4_ BK247.1) | (go_at_call 50; (with_reducible refine (bg.calls a0_0 a0_1 a0_2 a0_3 (⟨#[59]⟩ : ByteArray) false _ A5.1).mono ?_); rintro e w20 ⟨rfl, hb⟩; refine fK (bb_ BK247.1 hb) (ah (bl1_ HB.1 GE247.1) hb) ?_; clear BK247 HB; intro BK247 HB; (try clear hb); (try clear hb2); (try clear hk); (try clear hi); obtain ⟨hcz21_0, hcz21_1, hcz21_2, hcz21_3, hfz21_0, hfz21_1, hfz21_2, hfz21_3⟩ := cq4_ BK247.1) | (go_at_call 50; (with_reducible refine (bg.calls a0_0 a0_1 a0_2 a0_3 (⟨#[123]⟩ : ByteArray) false _ A10.1).mono ?_); rintro e w22 ⟨rfl, hb⟩; refine fK (bb_ BK247.1 hb) (ah (bl1_ HB.1 GE247.1) hb) ?_; clear BK247 HB; intro BK247 HB; (try clear hb); (try clear hb2); (try clear hk); (try clear hi); obtain ⟨hcz23_0, hcz23_1, hcz23_2, hcz23_3, hfz23_0, hfz23_1, hfz23_2, hfz23_3⟩ := cq4_ BK247.1) | (go_at_call 50; (with_reducible refine (bg.calls a0_0 a0_1 a0_2 a0_3 (⟨#[125]⟩ : ByteArray) t250 _ A17.1).mono ?_); rintro e w24 ⟨rfl, hb⟩; refine fK (bb_ BK247.1 hb) (ah (bl1_ HB.1 GE247.1) hb) ?_; clear BK247 HB; intro BK247 HB; (try clear hb); (try clear hb2); (try clear hk); (try clear hi)))
 go_ret
 exact ⟨er_, bl1_ HB.1 GE247.1⟩
def bO.f (a0 : Int) : Option (Bool) := if a0 ≥ 65 then (if a0 ≤ 90 then (some true) else (if a0 ≥ 97 then (some (decide (a0 ≤ 122))) else (some false))) else (if a0 ≥ 97 then (some (decide (a0 ≤ 122))) else (some false))
theorem bO.calls (a0 : Int) (r : Bool) (w : World) (h : bO.f a0 = some r) :
  Calls Tryz.prog 99 #[.int .u8 a0] w fun e w' => e = .returned (.bool r) ∧ aK w w' := by
 have H : (if a0 ≥ 65 then (if a0 ≤ 90 then (some true) else (if a0 ≥ 97 then (some (decide (a0 ≤ 122))) else (some false))) else (if a0 ≥ 97 then (some (decide (a0 ≤ 122))) else (some false))) = some r := h; clear h; replace H := (sd_ H).symm; obtain ⟨c2b0, H⟩ | ⟨c2b0, H⟩ := H
 ·
  replace H := sd_ H; obtain ⟨c5b0, H⟩ | ⟨c5b0, H⟩ := H
  ·
   obtain rfl := Option.some.inj H
   go_enter Tryz.func99, Tryz.ntmps99
   go_wp2
   go_ret
   exact ⟨by first | rfl | (simp; done) | (simp [*]; done) | (simp <;> rfl), by repeat (first | exact aK.refl _ | apply aK.step)⟩
  obtain rfl := Option.some.inj H
  go_enter Tryz.func99, Tryz.ntmps99
  go_wp2
  go_ret
  exact ⟨by first | rfl | (simp; done) | (simp [*]; done) | (simp <;> rfl), by repeat (first | exact aK.refl _ | apply aK.step)⟩
 replace H := sd_ H; obtain ⟨c3b0, H⟩ | ⟨c3b0, H⟩ := H
 ·
  obtain rfl := Option.some.inj H
  go_enter Tryz.func99, Tryz.ntmps99
  go_wp2
  go_ret
  exact ⟨by first | rfl | (simp; done) | (simp [*]; done) | (simp <;> rfl), by repeat (first | exact aK.refl _ | apply aK.step)⟩
 replace H := sd_ H; obtain ⟨c4b0, H⟩ | ⟨c4b0, H⟩ := H
 ·
  obtain rfl := Option.some.inj H
  go_enter Tryz.func99, Tryz.ntmps99
  go_wp2
  go_ret
  exact ⟨by first | rfl | (simp; done) | (simp [*]; done) | (simp <;> rfl), by repeat (first | exact aK.refl _ | apply aK.step)⟩
 obtain rfl := Option.some.inj H
 go_enter Tryz.func99, Tryz.ntmps99
 go_wp2
 go_ret
 exact ⟨by first | rfl | (simp; done) | (simp [*]; done) | (simp <;> rfl), by repeat (first | exact aK.refl _ | apply aK.step)⟩
def bY.f (a0 : Int) : Option (Bool) := if a0 ≥ 48 then (some (decide (a0 ≤ 57))) else (some false)
theorem bY.calls (a0 : Int) (r : Bool) (w : World) (h : bY.f a0 = some r) :
  Calls Tryz.prog 100 #[.int .u8 a0] w fun e w' => e = .returned (.bool r) ∧ aK w w' := by
 have H : (if a0 ≥ 48 then (some (decide (a0 ≤ 57))) else (some false)) = some r := h; clear h; replace H := sd_ H; obtain ⟨c2b0, H⟩ | ⟨c2b0, H⟩ := H
 ·
  obtain rfl := Option.some.inj H
  go_enter Tryz.func100, Tryz.ntmps100
  go_wp2
  go_ret
  exact ⟨by first | rfl | (simp; done) | (simp [*]; done) | (simp <;> rfl), by repeat (first | exact aK.refl _ | apply aK.step)⟩
 obtain rfl := Option.some.inj H
 go_enter Tryz.func100, Tryz.ntmps100
 go_wp2
 go_ret
 exact ⟨by first | rfl | (simp; done) | (simp [*]; done) | (simp <;> rfl), by repeat (first | exact aK.refl _ | apply aK.step)⟩
def eH.f (a0 : Int) : Option (Bool) := (bO.f a0).bind fun t206 => (if t206 = true then (some true) else ((bY.f a0).bind fun t207 => (if t207 = true then (some true) else (if a0 = 95 then (some true) else (some (a0 == 46))))))
theorem eH.calls (a0 : Int) (r : Bool) (w : World) (h : eH.f a0 = some r) :
  Calls Tryz.prog 80 #[.int .u8 a0] w fun e w' => e = .returned (.bool r) ∧ aK w w' := by
 have H : ((bO.f a0).bind fun t206 => (if t206 = true then (some true) else ((bY.f a0).bind fun t207 => (if t207 = true then (some true) else (if a0 = 95 then (some true) else (some (a0 == 46))))))) = some r := h; clear h; replace H := bn_ H; obtain ⟨t206, A2, H⟩ := H; (try dsimp only at H); replace H := sb_ H; obtain ⟨rfl, H⟩ | ⟨rfl, H⟩ := H
 ·
  obtain rfl := Option.some.inj H
  go_enter Tryz.func80, Tryz.ntmps80
  go_wp2_with (first | ((with_reducible refine aj (f := 99) rfl ?_); refine gk_ (some 4) Tryz.func99 (bO.calls a0 true _ A2.1) ?_; rintro e w' ⟨rfl, ⟨nd, rfl⟩⟩; refine ⟨_, rfl, ?_⟩))
  go_ret
  exact ⟨by first | rfl | (simp; done) | (simp [*]; done) | (simp <;> rfl), by repeat (first | exact aK.refl _ | apply aK.step)⟩
 replace H := bn_ H; obtain ⟨t207, A4, H⟩ := H; (try dsimp only at H); replace H := sb_ H; obtain ⟨rfl, H⟩ | ⟨rfl, H⟩ := H
 ·
  obtain rfl := Option.some.inj H
  go_enter Tryz.func80, Tryz.ntmps80
  go_wp2_with (first | ((with_reducible refine aj (f := 99) rfl ?_); refine gk_ (some 4) Tryz.func99 (bO.calls a0 false _ A2.1) ?_; rintro e w' ⟨rfl, ⟨nd, rfl⟩⟩; refine ⟨_, rfl, ?_⟩) | (go_at_call 100; (with_reducible refine (bY.calls a0 true _ A4.1).mono ?_); rintro e w' ⟨rfl, ⟨nd, rfl⟩⟩))
  go_ret
  exact ⟨by first | rfl | (simp; done) | (simp [*]; done) | (simp <;> rfl), by repeat (first | exact aK.refl _ | apply aK.step)⟩
 replace H := (sp_ H).symm; obtain ⟨c6, H⟩ | ⟨c6, H⟩ := H
 ·
  have c6b0 := beq_eq_false_iff_ne.mpr c6; have c6b1 := bne_iff_ne.mpr c6; obtain rfl := Option.some.inj H
  go_enter Tryz.func80, Tryz.ntmps80
  go_wp2_with (first | ((with_reducible refine aj (f := 99) rfl ?_); refine gk_ (some 4) Tryz.func99 (bO.calls a0 false _ A2.1) ?_; rintro e w' ⟨rfl, ⟨nd, rfl⟩⟩; refine ⟨_, rfl, ?_⟩) | (go_at_call 100; (with_reducible refine (bY.calls a0 false _ A4.1).mono ?_); rintro e w' ⟨rfl, ⟨nd, rfl⟩⟩))
  go_ret
  exact ⟨by first | rfl | (simp; done) | (simp [*]; done) | (simp <;> rfl), by repeat (first | exact aK.refl _ | apply aK.step)⟩
 have c6b0 := beq_iff_eq.mpr c6; have c6b1 := bne_eq_false_iff_eq.mpr c6; clear c6; obtain rfl := Option.some.inj H
 go_enter Tryz.func80, Tryz.ntmps80
 go_wp2_with (first | ((with_reducible refine aj (f := 99) rfl ?_); refine gk_ (some 4) Tryz.func99 (bO.calls a0 false _ A2.1) ?_; rintro e w' ⟨rfl, ⟨nd, rfl⟩⟩; refine ⟨_, rfl, ?_⟩) | (go_at_call 100; (with_reducible refine (bY.calls a0 false _ A4.1).mono ?_); rintro e w' ⟨rfl, ⟨nd, rfl⟩⟩))
 go_ret
 exact ⟨by first | rfl | (simp; done) | (simp [*]; done) | (simp <;> rfl), by repeat (first | exact aK.refl _ | apply aK.step)⟩
mutual
def aX.j0 : Nat → ByteArray → Bool → Option (Int)
 | 0, _, _ => none
 | k + 1, x0, x19 => if x19 = true then (some 2) else (aX.l0 k x0 0)
def aX.l0 : Nat → ByteArray → Int → Option (Int)
 | 0, _, _ => none
 | k + 1, x0, x3 => if x3 < (x0.size : Int) then (if 0 ≤ x3 then (if (bt x0 x3) < 32 then (some 2) else (if (bt x0 x3) > 126 then (some 2) else (if (bt x0 x3) = 34 then (some 2) else (aX.l0 k x0 (wrap64 (x3 + 1)))))) else (none)) else (if (x0.size : Int) > 40 then (some 6) else (some 0))
end
def aX.f (k : Nat) (a0 : ByteArray) : Option (Int) := if (a0.size : Int) = 0 then (aX.j0 k a0 true) else (if 0 < (a0.size : Int) then (if (bt a0 0) = 32 then (aX.j0 k a0 true) else (if 0 ≤ (wrap64 ((a0.size : Int) - 1)) then (if (wrap64 ((a0.size : Int) - 1)) < (a0.size : Int) then (aX.j0 k a0 ((bt a0 (wrap64 ((a0.size : Int) - 1))) == 32)) else (none)) else (none))) else (none))
theorem aX.calls (k : Nat) (a0 : ByteArray) (r : Int) (w : World) (h : aX.f k a0 = some r) :
  Calls Tryz.prog 81 #[.string a0] w fun e w' => e = .returned (.int .i64 r) ∧ aK w w' := by
 have H : (if (a0.size : Int) = 0 then (aX.j0 k a0 true) else (if 0 < (a0.size : Int) then (if (bt a0 0) = 32 then (aX.j0 k a0 true) else (if 0 ≤ (wrap64 ((a0.size : Int) - 1)) then (if (wrap64 ((a0.size : Int) - 1)) < (a0.size : Int) then (aX.j0 k a0 ((bt a0 (wrap64 ((a0.size : Int) - 1))) == 32)) else (none)) else (none))) else (none))) = some r := h; clear h; have HC2 := af.mk H; clear H
 go_enter Tryz.func81, Tryz.ntmps81
 go_upto_region 1 with (fail)
 go_cut [19] (fun v19 wc => ∃ (kq : Nat) (x19_1 : Bool), v19 = .bool x19_1 ∧ af (aX.j0 kq a0 x19_1 = some r) ∧ af (kq ≤ k) ∧ aK w wc)
 case first =>
  have H := HC2.1; clear HC2; replace H := sp_ H; obtain ⟨c3, H⟩ | ⟨c3, H⟩ := H
  ·
   have c3b0 := beq_iff_eq.mpr c3; have c3b1 := bne_eq_false_iff_eq.mpr c3; clear c3
   (first | rw [c3b0] | (simp only [cz, cK]; rw [c3b0]) | skip)
   have H' := af.mk H; clear H
   go_wp2
   go_meet
   case rel => exact ⟨_, (true), sr_, H', ⟨by first | omega | exact Nat.le_refl _⟩, by repeat (first | exact aK.refl _ | apply aK.step)⟩
  have c3b0 := beq_eq_false_iff_ne.mpr c3; have c3b1 := bne_iff_ne.mpr c3
  (first | rw [c3b0] | (simp only [cz, cK]; rw [c3b0]) | skip)
  replace H := gp_ H; obtain ⟨c4, H⟩ := H; have c4b0 := decide_eq_true c4; have c4b1 : decide (0 < a0.size) = true := decide_eq_true (by omega); clear c4; replace H := sp_ H; obtain ⟨c6, H⟩ | ⟨c6, H⟩ := H
  ·
   have c6b0 := beq_iff_eq.mpr c6; have c6b1 := bne_eq_false_iff_eq.mpr c6; clear c6; have H' := af.mk H; clear H; have p5 : 0 ≤ (0 : Int) := (by omega); have q5 : 0 < a0.size := (by have : (0 : Int) < (a0.size : Int) := dt_; omega); have hx5 : ∀ h : 0 < a0.size, ((a0[0]'h).toNat : Int) = bt a0 0 := bS a0 0; clear p5; have qi5 : (0 < (a0.size : Int)) = True := eq_true (dt_); replace q5 := eq_true q5
   go_wp2
   go_meet
   case rel => exact ⟨_, (true), sr_, H', ⟨by first | omega | exact Nat.le_refl _⟩, by repeat (first | exact aK.refl _ | apply aK.step)⟩
  have c6b0 := beq_eq_false_iff_ne.mpr c6; have c6b1 := bne_iff_ne.mpr c6; obtain ⟨ji7, hji7⟩ : ∃ j_ : Int, (wrap64 ((a0.size : Int) - 1)) = j_ := ⟨_, rfl⟩; replace H : (if 0 ≤ (ji7) then (if (ji7) < (a0.size : Int) then (aX.j0 k a0 ((bt a0 (ji7)) == 32)) else (none)) else (none)) = some r := by first | (rw [hji7] at H; exact H) | (simp only [hji7] at H ⊢; exact H)
  have hji7w : (IntKind.i64.wrap ((a0.size : Int) - 1)) = ji7 := (cz _).trans hji7; replace H := gd_ H; obtain ⟨c8b0, H⟩ := H; replace H := gd_ H; obtain ⟨c9b0, H⟩ := H; have H' := af.mk H; clear H; have p5 : 0 ≤ (0 : Int) := (by omega); have q5 : 0 < a0.size := (by have : (0 : Int) < (a0.size : Int) := dt_; omega); have hx5 : ∀ h : 0 < a0.size, ((a0[0]'h).toNat : Int) = bt a0 0 := bS a0 0; clear p5; have qi5 : (0 < (a0.size : Int)) = True := eq_true (dt_); replace q5 := eq_true q5; have p10 : (0 ≤ ((ji7) : Int)) = True := dT_; have q10 : ((ji7) < (a0.size : Int)) = True := dT_; have hx10 := bS a0 (ji7)
  go_wp2
  go_meet
  case rel => exact ⟨_, (((bt a0 (ji7)) == 32)), (by first | rfl | (simp; done) | (simp only [← hji7] <;> (first | rfl | simp)) | (simp [*]; done)), H', ⟨by first | omega | exact Nat.le_refl _⟩, by repeat (first | exact aK.refl _ | apply aK.step)⟩
 case rest =>
  clear HC2; obtain ⟨kq, x19_1, rfl, HA, HJ1, ⟨mc1, rfl⟩⟩ := hcut
  cases kq with
  | zero => exact absurd HA.1 (by simp [aX.j0])
  | succ kj1 =>
   have H := HA.1; clear HA; simp only [aX.j0] at H; replace H := sb_ H; obtain ⟨rfl, H⟩ | ⟨rfl, H⟩ := H
   ·
    obtain rfl := Option.some.inj H
    go_wp2
    go_ret
    exact ⟨by first | rfl | (simp; done) | (simp [*]; done) | (simp <;> rfl), by repeat (first | exact aK.refl _ | apply aK.step)⟩
   have H' := af.mk H; clear H
   go_wp2
   go_loopg [3] kj1 (fun kq v3 w' => ∃ (x3_2 : Int), v3 = .int .i64 x3_2 ∧ af (aX.l0 kq a0 x3_2 = some r) ∧ af (kq ≤ kj1) ∧ aK w w')
   case atStart => exact ⟨(0), sr_, H', ⟨Nat.le_refl _⟩, by repeat (first | exact aK.refl _ | apply aK.step)⟩
   case round =>
    clear H'; (try clear c11); obtain ⟨x3_2, rfl, HA, HK2, ⟨m2, rfl⟩⟩ := hrel; obtain _ | k2 := gk
    · exact absurd HA.1 (by simp [aX.l0])
    have H := HA.1; clear HA; simp only [aX.l0] at H; replace H := (sd_ H).symm; obtain ⟨c12b0, H⟩ | ⟨c12b0, H⟩ := H
    ·
     replace H := sp_ H; obtain ⟨c20, H⟩ | ⟨c20, H⟩ := H
     ·
      have c20b0 := decide_eq_true c20; have c20b1 : decide (40 < a0.size) = true := decide_eq_true (by omega); clear c20; obtain rfl := Option.some.inj H
      go_wp2
      go_ret
      exact ⟨by first | rfl | (simp; done) | (simp [*]; done) | (simp <;> rfl), by repeat (first | exact aK.refl _ | apply aK.step)⟩
     have c20b0 := decide_eq_false c20; have c20b1 : decide (40 < a0.size) = false := decide_eq_false (by omega); clear c20; obtain rfl := Option.some.inj H
     go_wp2
     go_ret
     exact ⟨by first | rfl | (simp; done) | (simp [*]; done) | (simp <;> rfl), by repeat (first | exact aK.refl _ | apply aK.step)⟩
    replace H := gd_ H; obtain ⟨c13b0, H⟩ := H; replace H := sd_ H; obtain ⟨c15b0, H⟩ | ⟨c15b0, H⟩ := H
    ·
     obtain rfl := Option.some.inj H; have p14 : (0 ≤ (x3_2 : Int)) = True := dT_; have q14 : (x3_2 < (a0.size : Int)) = True := dT_; have hx14 := bS a0 x3_2
     go_wp2
     go_ret
     exact ⟨by first | rfl | (simp; done) | (simp [*]; done) | (simp <;> rfl), by repeat (first | exact aK.refl _ | apply aK.step)⟩
    replace H := sd_ H; obtain ⟨c17b0, H⟩ | ⟨c17b0, H⟩ := H
    ·
     obtain rfl := Option.some.inj H; have p14 : (0 ≤ (x3_2 : Int)) = True := dT_; have q14 : (x3_2 < (a0.size : Int)) = True := dT_; have hx14 := bS a0 x3_2; have p16 : (0 ≤ (x3_2 : Int)) = True := dT_; have q16 : (x3_2 < (a0.size : Int)) = True := dT_; have hx16 := bS a0 x3_2
     go_wp2
     go_ret
     exact ⟨by first | rfl | (simp; done) | (simp [*]; done) | (simp <;> rfl), by repeat (first | exact aK.refl _ | apply aK.step)⟩
    replace H := sp_ H; obtain ⟨c19, H⟩ | ⟨c19, H⟩ := H
    ·
     have c19b0 := beq_iff_eq.mpr c19; have c19b1 := bne_eq_false_iff_eq.mpr c19; clear c19; obtain rfl := Option.some.inj H; have p14 : (0 ≤ (x3_2 : Int)) = True := dT_; have q14 : (x3_2 < (a0.size : Int)) = True := dT_; have hx14 := bS a0 x3_2; have p16 : (0 ≤ (x3_2 : Int)) = True := dT_; have q16 : (x3_2 < (a0.size : Int)) = True := dT_; have hx16 := bS a0 x3_2; have p18 : (0 ≤ (x3_2 : Int)) = True := dT_; have q18 : (x3_2 < (a0.size : Int)) = True := dT_; have hx18 := bS a0 x3_2
     go_wp2
     go_ret
     exact ⟨by first | rfl | (simp; done) | (simp [*]; done) | (simp <;> rfl), by repeat (first | exact aK.refl _ | apply aK.step)⟩
    have c19b0 := beq_eq_false_iff_ne.mpr c19; have c19b1 := bne_iff_ne.mpr c19; have H' := af.mk H; clear H; have p14 : (0 ≤ (x3_2 : Int)) = True := dT_; have q14 : (x3_2 < (a0.size : Int)) = True := dT_; have hx14 := bS a0 x3_2; have p16 : (0 ≤ (x3_2 : Int)) = True := dT_; have q16 : (x3_2 < (a0.size : Int)) = True := dT_; have hx16 := bS a0 x3_2; have p18 : (0 ≤ (x3_2 : Int)) = True := dT_; have q18 : (x3_2 < (a0.size : Int)) = True := dT_; have hx18 := bS a0 x3_2
    go_wp2
    go_roundg k2
    case measure => have := HJ1.1; have := HK2.1; omega
    case rel => exact ⟨(wrap64 (x3_2 + 1)), sr_, H', ⟨by have := HJ1.1; have := HK2.1; omega⟩, by repeat (first | exact aK.refl _ | apply aK.step)⟩
def bF.l0 : Nat → Int → Int → Option (Bool)
 | 0, _, _ => none
 | k + 1, x0, x3 => if x3 < 11 then (if 0 ≤ x3 then (if (bt (⟨#[40, 41, 43, 45, 42, 47, 44, 61, 59, 123, 125]⟩ : ByteArray) x3) = x0 then (some true) else (bF.l0 k x0 (wrap64 (x3 + 1)))) else (none)) else (some false)
def bF.f (k : Nat) (a0 : Int) : Option (Bool) := bF.l0 k a0 0
theorem bF.calls (k : Nat) (a0 : Int) (r : Bool) (w : World) (h : bF.f k a0 = some r) :
  Calls Tryz.prog 82 #[.int .u8 a0] w fun e w' => e = .returned (.bool r) ∧ aK w w' := by
 have H : (bF.l0 k a0 0) = some r := h; clear h; have H' := af.mk H; clear H
 go_enter Tryz.func82, Tryz.ntmps82
 go_wp2
 go_loopg [3] k (fun kq v3 w' => ∃ (x3_1 : Int), v3 = .int .i64 x3_1 ∧ af (bF.l0 kq a0 x3_1 = some r) ∧ af (kq ≤ k) ∧ aK w w')
 case atStart => exact ⟨(0), sr_, H', ⟨Nat.le_refl _⟩, by repeat (first | exact aK.refl _ | apply aK.step)⟩
 case round =>
  clear H'; obtain ⟨x3_1, rfl, HA, HK1, ⟨m1, rfl⟩⟩ := hrel; obtain _ | k1 := gk
  · exact absurd HA.1 (by simp [bF.l0])
  have H := HA.1; clear HA; simp only [bF.l0] at H; replace H := (sd_ H).symm; obtain ⟨c2b0, H⟩ | ⟨c2b0, H⟩ := H
  ·
   obtain rfl := Option.some.inj H
   go_wp2
   go_ret
   exact ⟨by first | rfl | (simp; done) | (simp [*]; done) | (simp <;> rfl), by repeat (first | exact aK.refl _ | apply aK.step)⟩
  replace H := gd_ H; obtain ⟨c3b0, H⟩ := H; replace H := sp_ H; obtain ⟨c5, H⟩ | ⟨c5, H⟩ := H
  ·
   have c5b0 := beq_iff_eq.mpr c5; have c5b1 := bne_eq_false_iff_eq.mpr c5; clear c5; obtain rfl := Option.some.inj H; have p4 : (0 ≤ (x3_1 : Int)) = True := dT_; have q4 : (x3_1 < (11 : Int)) = True := dT_; have hx4 := bS (⟨#[40, 41, 43, 45, 42, 47, 44, 61, 59, 123, 125]⟩ : ByteArray) x3_1
   go_wp2
   go_ret
   exact ⟨by first | rfl | (simp; done) | (simp [*]; done) | (simp <;> rfl), by repeat (first | exact aK.refl _ | apply aK.step)⟩
  have c5b0 := beq_eq_false_iff_ne.mpr c5; have c5b1 := bne_iff_ne.mpr c5; have H' := af.mk H; clear H; have p4 : (0 ≤ (x3_1 : Int)) = True := dT_; have q4 : (x3_1 < (11 : Int)) = True := dT_; have hx4 := bS (⟨#[40, 41, 43, 45, 42, 47, 44, 61, 59, 123, 125]⟩ : ByteArray) x3_1
  go_wp2
  go_roundg k1
  case measure => have := HK1.1; omega
  case rel => exact ⟨(wrap64 (x3_1 + 1)), sr_, H', ⟨om_ HK1.1⟩, by repeat (first | exact aK.refl _ | apply aK.step)⟩
def bA.l0 : Nat → ByteArray → Bool → Bool → Int → Option (Bool)
 | 0, _, _, _, _ => none
 | k + 1, x0, x1, x2, x7 => if x7 < (x0.size : Int) then (if x1 = true then (if 0 ≤ x7 then ((bO.f (bt x0 x7)).bind fun t208 => (if t208 = true then (some true) else (if x2 = true then (if (bt x0 x7) = 46 then (some true) else (bA.l0 k x0 x1 x2 (wrap64 (x7 + 1)))) else (bA.l0 k x0 x1 x2 (wrap64 (x7 + 1)))))) else (none)) else (if x2 = true then (if 0 ≤ x7 then (if (bt x0 x7) = 46 then (some true) else (bA.l0 k x0 x1 x2 (wrap64 (x7 + 1)))) else (none)) else (bA.l0 k x0 x1 x2 (wrap64 (x7 + 1))))) else (some false)
def bA.f (k : Nat) (a0 : ByteArray) (a1 : Bool) (a2 : Bool) : Option (Bool) := bA.l0 k a0 a1 a2 0
theorem bA.calls (k : Nat) (a0 : ByteArray) (a1 : Bool) (a2 : Bool) (r : Bool) (w : World) (h : bA.f k a0 a1 a2 = some r) :
  Calls Tryz.prog 83 #[.string a0, .bool a1, .bool a2] w fun e w' => e = .returned (.bool r) ∧ aK w w' := by
 have H : (bA.l0 k a0 a1 a2 0) = some r := h; clear h; have H' := af.mk H; clear H
 go_enter Tryz.func83, Tryz.ntmps83
 go_wp2
 go_loopg [7] k (fun kq v7 w' => ∃ (x7_1 : Int), v7 = .int .i64 x7_1 ∧ af (bA.l0 kq a0 a1 a2 x7_1 = some r) ∧ af (kq ≤ k) ∧ aK w w')
 case atStart => exact ⟨(0), sr_, H', ⟨Nat.le_refl _⟩, by repeat (first | exact aK.refl _ | apply aK.step)⟩
 case round =>
  clear H'; obtain ⟨x7_1, rfl, HA, HK1, ⟨m1, rfl⟩⟩ := hrel; obtain _ | k1 := gk
  · exact absurd HA.1 (by simp [bA.l0])
  have H := HA.1; clear HA; simp only [bA.l0] at H; replace H := (sd_ H).symm; obtain ⟨c4b0, H⟩ | ⟨c4b0, H⟩ := H
  ·
   obtain rfl := Option.some.inj H
   go_wp2
   go_ret
   exact ⟨by first | rfl | (simp; done) | (simp [*]; done) | (simp <;> rfl), by repeat (first | exact aK.refl _ | apply aK.step)⟩
  replace H := (sb_ H).symm; obtain ⟨rfl, H⟩ | ⟨rfl, H⟩ := H
  ·
   replace H := (sb_ H).symm; obtain ⟨rfl, H⟩ | ⟨rfl, H⟩ := H
   ·
    have H' := af.mk H; clear H
    go_wp2
    go_roundg k1
    case measure => have := HK1.1; omega
    case rel => exact ⟨(wrap64 (x7_1 + 1)), sr_, H', ⟨om_ HK1.1⟩, by repeat (first | exact aK.refl _ | apply aK.step)⟩
   replace H := gd_ H; obtain ⟨c14b0, H⟩ := H; replace H := sp_ H; obtain ⟨c16, H⟩ | ⟨c16, H⟩ := H
   ·
    have c16b0 := beq_iff_eq.mpr c16; have c16b1 := bne_eq_false_iff_eq.mpr c16; clear c16; obtain rfl := Option.some.inj H; have p15 : (0 ≤ (x7_1 : Int)) = True := dT_; have q15 : (x7_1 < (a0.size : Int)) = True := dT_; have hx15 := bS a0 x7_1
    go_wp2
    go_ret
    exact ⟨by first | rfl | (simp; done) | (simp [*]; done) | (simp <;> rfl), by repeat (first | exact aK.refl _ | apply aK.step)⟩
   have c16b0 := beq_eq_false_iff_ne.mpr c16; have c16b1 := bne_iff_ne.mpr c16; have H' := af.mk H; clear H; have p15 : (0 ≤ (x7_1 : Int)) = True := dT_; have q15 : (x7_1 < (a0.size : Int)) = True := dT_; have hx15 := bS a0 x7_1
   go_wp2
   go_roundg k1
   case measure => have := HK1.1; omega
   case rel => exact ⟨(wrap64 (x7_1 + 1)), sr_, H', ⟨om_ HK1.1⟩, by repeat (first | exact aK.refl _ | apply aK.step)⟩
  replace H := gd_ H; obtain ⟨c6b0, H⟩ := H; replace H := bn_ H; obtain ⟨t208, A8, H⟩ := H; (try dsimp only at H); replace H := sb_ H; obtain ⟨rfl, H⟩ | ⟨rfl, H⟩ := H
  ·
   obtain rfl := Option.some.inj H; have p7 : (0 ≤ (x7_1 : Int)) = True := dT_; have q7 : (x7_1 < (a0.size : Int)) = True := dT_; have hx7 := bS a0 x7_1
   go_wp2_with (first | (go_at_call 99; (with_reducible refine (bO.calls (bt a0 x7_1) true _ A8.1).mono ?_); rintro e w' ⟨rfl, ⟨nd, rfl⟩⟩))
   go_ret
   exact ⟨by first | rfl | (simp; done) | (simp [*]; done) | (simp <;> rfl), by repeat (first | exact aK.refl _ | apply aK.step)⟩
  replace H := (sb_ H).symm; obtain ⟨rfl, H⟩ | ⟨rfl, H⟩ := H
  ·
   have H' := af.mk H; clear H; have p7 : (0 ≤ (x7_1 : Int)) = True := dT_; have q7 : (x7_1 < (a0.size : Int)) = True := dT_; have hx7 := bS a0 x7_1
   go_wp2_with (first | (go_at_call 99; (with_reducible refine (bO.calls (bt a0 x7_1) false _ A8.1).mono ?_); rintro e w' ⟨rfl, ⟨nd, rfl⟩⟩))
   go_roundg k1
   case measure => have := HK1.1; omega
   case rel => exact ⟨(wrap64 (x7_1 + 1)), sr_, H', ⟨om_ HK1.1⟩, by repeat (first | exact aK.refl _ | apply aK.step)⟩
  replace H := sp_ H; obtain ⟨c12, H⟩ | ⟨c12, H⟩ := H
  ·
   have c12b0 := beq_iff_eq.mpr c12; have c12b1 := bne_eq_false_iff_eq.mpr c12; clear c12; obtain rfl := Option.some.inj H; have p7 : (0 ≤ (x7_1 : Int)) = True := dT_; have q7 : (x7_1 < (a0.size : Int)) = True := dT_; have hx7 := bS a0 x7_1
   go_wp2_with (first | (go_at_call 99; (with_reducible refine (bO.calls (bt a0 x7_1) false _ A8.1).mono ?_); rintro e w' ⟨rfl, ⟨nd, rfl⟩⟩; have p11 : 0 ≤ (x7_1 : Int) := dt_; have q11 : x7_1 < (a0.size : Int) := dt_; have hx11 := bS a0 x7_1; replace p11 := eq_true p11; replace q11 := eq_true q11))
   go_ret
   exact ⟨by first | rfl | (simp; done) | (simp [*]; done) | (simp <;> rfl), by repeat (first | exact aK.refl _ | apply aK.step)⟩
  have c12b0 := beq_eq_false_iff_ne.mpr c12; have c12b1 := bne_iff_ne.mpr c12; have H' := af.mk H; clear H; have p7 : (0 ≤ (x7_1 : Int)) = True := dT_; have q7 : (x7_1 < (a0.size : Int)) = True := dT_; have hx7 := bS a0 x7_1
  go_wp2_with (first | (go_at_call 99; (with_reducible refine (bO.calls (bt a0 x7_1) false _ A8.1).mono ?_); rintro e w' ⟨rfl, ⟨nd, rfl⟩⟩; have p11 : 0 ≤ (x7_1 : Int) := dt_; have q11 : x7_1 < (a0.size : Int) := dt_; have hx11 := bS a0 x7_1; replace p11 := eq_true p11; replace q11 := eq_true q11))
  go_roundg k1
  case measure => have := HK1.1; omega
  case rel => exact ⟨(wrap64 (x7_1 + 1)), sr_, H', ⟨om_ HK1.1⟩, by repeat (first | exact aK.refl _ | apply aK.step)⟩
def bz.l0 : Nat → ByteArray → Int → Option (Bool)
 | 0, _, _ => none
 | k + 1, x0, x3 => if x3 < (x0.size : Int) then (if 0 ≤ x3 then ((bY.f (bt x0 x3)).bind fun t209 => (if t209 = true then (bz.l0 k x0 (wrap64 (x3 + 1))) else (some false))) else (none)) else (some (decide ((x0.size : Int) > 0)))
def bz.f (k : Nat) (a0 : ByteArray) : Option (Bool) := bz.l0 k a0 0
theorem bz.calls (k : Nat) (a0 : ByteArray) (r : Bool) (w : World) (h : bz.f k a0 = some r) :
  Calls Tryz.prog 101 #[.string a0] w fun e w' => e = .returned (.bool r) ∧ aK w w' := by
 have H : (bz.l0 k a0 0) = some r := h; clear h; have H' := af.mk H; clear H
 go_enter Tryz.func101, Tryz.ntmps101
 go_wp2
 go_loopg [3] k (fun kq v3 w' => ∃ (x3_1 : Int), v3 = .int .i64 x3_1 ∧ af (bz.l0 kq a0 x3_1 = some r) ∧ af (kq ≤ k) ∧ aK w w')
 case atStart => exact ⟨(0), sr_, H', ⟨Nat.le_refl _⟩, by repeat (first | exact aK.refl _ | apply aK.step)⟩
 case round =>
  clear H'; obtain ⟨x3_1, rfl, HA, HK1, ⟨m1, rfl⟩⟩ := hrel; obtain _ | k1 := gk
  · exact absurd HA.1 (by simp [bz.l0])
  have H := HA.1; clear HA; simp only [bz.l0] at H; replace H := (sd_ H).symm; obtain ⟨c2b0, H⟩ | ⟨c2b0, H⟩ := H
  ·
   obtain rfl := Option.some.inj H
   go_wp2
   go_ret
   exact ⟨by first | rfl | (simp; done) | (simp [*]; done) | (simp <;> rfl), by repeat (first | exact aK.refl _ | apply aK.step)⟩
  replace H := gd_ H; obtain ⟨c3b0, H⟩ := H; replace H := bn_ H; obtain ⟨t209, A5, H⟩ := H; (try dsimp only at H); replace H := (sb_ H).symm; obtain ⟨rfl, H⟩ | ⟨rfl, H⟩ := H
  ·
   obtain rfl := Option.some.inj H; have p4 : (0 ≤ (x3_1 : Int)) = True := dT_; have q4 : (x3_1 < (a0.size : Int)) = True := dT_; have hx4 := bS a0 x3_1
   go_wp2_with (first | ((with_reducible refine aj (f := 100) rfl ?_); refine gk_ (some 13) Tryz.func100 (bY.calls (bt a0 x3_1) false _ A5.1) ?_; rintro e w' ⟨rfl, ⟨nd, rfl⟩⟩; refine ⟨_, rfl, ?_⟩))
   go_ret
   exact ⟨by first | rfl | (simp; done) | (simp [*]; done) | (simp <;> rfl), by repeat (first | exact aK.refl _ | apply aK.step)⟩
  have H' := af.mk H; clear H; have p4 : (0 ≤ (x3_1 : Int)) = True := dT_; have q4 : (x3_1 < (a0.size : Int)) = True := dT_; have hx4 := bS a0 x3_1
  go_wp2_with (first | ((with_reducible refine aj (f := 100) rfl ?_); refine gk_ (some 13) Tryz.func100 (bY.calls (bt a0 x3_1) true _ A5.1) ?_; rintro e w' ⟨rfl, ⟨nd, rfl⟩⟩; refine ⟨_, rfl, ?_⟩))
  go_roundg k1
  case measure => have := HK1.1; omega
  case rel => exact ⟨(wrap64 (x3_1 + 1)), sr_, H', ⟨om_ HK1.1⟩, by repeat (first | exact aK.refl _ | apply aK.step)⟩
mutual
def ay.j1 : Nat → ByteArray → Int → Option (Int × Int)
 | 0, _, _ => none
 | k + 1, x0, x4 => if 0 ≤ x4 then (if x4 ≤ (x0.size : Int) then (if x4 < (x0.size : Int) then (if 0 ≤ (wrap64 (x4 + 1)) then (if (wrap64 (x4 + 1)) ≤ (x0.size : Int) then ((bz.f k (x0.extract ((wrap64 (x4 + 1)) : Int).toNat x0.size)).bind fun t210 => (if t210 = true then (if ((x0.extract ((wrap64 (x4 + 1)) : Int).toNat x0.size).size : Int) > 3 then (some (0, 2)) else (ay.j2 k (x0.extract 0 (x4 : Int).toNat) (x0.extract ((wrap64 (x4 + 1)) : Int).toNat x0.size))) else (some (0, 2)))) else (none)) else (none)) else (ay.j2 k (x0.extract 0 (x4 : Int).toNat) (⟨#[]⟩ : ByteArray))) else (none)) else (none)
def ay.j2 : Nat → ByteArray → ByteArray → Option (Int × Int)
 | 0, _, _ => none
 | k + 1, x5, x6 => (bz.f k x5).bind fun t211 => (if t211 = true then (if (x5.size : Int) > 1 then (if 0 < (x5.size : Int) then (ay.j3 k x5 x6 ((bt x5 0) == 48)) else (none)) else (ay.j3 k x5 x6 false)) else (ay.j3 k x5 x6 true))
def ay.j3 : Nat → ByteArray → ByteArray → Bool → Option (Int × Int)
 | 0, _, _, _ => none
 | k + 1, x5, x6, x53 => if x53 = true then (some (0, 2)) else (if (x5.size : Int) > 10 then (some (0, 5)) else (ay.l1 k x5 x6 0 0))
def ay.l1 : Nat → ByteArray → ByteArray → Int → Int → Option (Int × Int)
 | 0, _, _, _, _ => none
 | k + 1, x5, x6, x7, x8 => if x8 < (x5.size : Int) then (if 0 ≤ x8 then (ay.l1 k x5 x6 (wrap64 ((wrap64 (10 * x7)) + (((bt x5 x8) - 48) % 256))) (wrap64 (x8 + 1))) else (none)) else (ay.l2 k x6 x7 0)
def ay.l2 : Nat → ByteArray → Int → Int → Option (Int × Int)
 | 0, _, _, _ => none
 | k + 1, x6, x7, x9 => if x9 < 3 then (if x9 < (x6.size : Int) then (if 0 ≤ x9 then (ay.l2 k x6 (wrap64 ((wrap64 (x7 * 10)) + (((bt x6 x9) - 48) % 256))) (wrap64 (x9 + 1))) else (none)) else (ay.l2 k x6 (wrap64 (x7 * 10)) (wrap64 (x9 + 1)))) else (if x7 > 1000000000 then (some (0, 5)) else (some (x7, 0)))
def ay.l0 : Nat → ByteArray → Int → Option (Int × Int)
 | 0, _, _ => none
 | k + 1, x0, x4 => if x4 < (x0.size : Int) then (if 0 ≤ x4 then (if (bt x0 x4) = 46 then (ay.j1 k x0 x4) else (ay.l0 k x0 (wrap64 (x4 + 1)))) else (none)) else (ay.j1 k x0 x4)
end
def ay.f (k : Nat) (a0 : ByteArray) : Option (Int × Int) := ay.l0 k a0 0
theorem ay.calls (k : Nat) (a0 : ByteArray) (r1 : Int) (r2 : Int) (w : World) (h : ay.f k a0 = some (r1, r2)) :
  Calls Tryz.prog 84 #[.string a0] w fun e w' => e = .returned (.tuple #[.int .i64 r1, .int .i64 r2]) ∧ aK w w' := by
 have H : (ay.l0 k a0 0) = some (r1, r2) := h; clear h; have HC2 := af.mk H; clear H
 go_enter Tryz.func84, Tryz.ntmps84
 go_upto_block 0 with (fail)
 go_cut [4] (fun v4 wc => ∃ (kq : Nat) (x4_1 : Int), v4 = .int .i64 x4_1 ∧ af (ay.j1 kq a0 x4_1 = some (r1, r2)) ∧ af (kq ≤ k) ∧ aK w wc)
 case first =>
  have H := HC2.1; clear HC2; have H' := af.mk H; clear H
  go_wp2
  go_loopg [4] k (fun kq v4 w' => ∃ (x4_1 : Int), v4 = .int .i64 x4_1 ∧ af (ay.l0 kq a0 x4_1 = some (r1, r2)) ∧ af (kq ≤ k) ∧ aK w w')
  case atStart => exact ⟨(0), sr_, H', ⟨Nat.le_refl _⟩, by repeat (first | exact aK.refl _ | apply aK.step)⟩
  case round =>
   clear H'; obtain ⟨x4_1, rfl, HA, HK1, ⟨m1, rfl⟩⟩ := hrel; obtain _ | k1 := gk
   · exact absurd HA.1 (by simp [ay.l0])
   have H := HA.1; clear HA; simp only [ay.l0] at H; replace H := (sd_ H).symm; obtain ⟨c3b0, H⟩ | ⟨c3b0, H⟩ := H
   ·
    (first | rw [c3b0] | (simp only [cz, cK]; rw [c3b0]) | skip)
    have H' := af.mk H; clear H
    go_wp2
    go_meet
    case rel => exact ⟨_, (x4_1), sr_, H', ⟨ol_ HK1.1⟩, by repeat (first | exact aK.refl _ | apply aK.step)⟩
   (first | rw [c3b0] | (simp only [cz, cK]; rw [c3b0]) | skip)
   replace H := gd_ H; obtain ⟨c4b0, H⟩ := H; replace H := sp_ H; obtain ⟨c6, H⟩ | ⟨c6, H⟩ := H
   ·
    have c6b0 := beq_iff_eq.mpr c6; have c6b1 := bne_eq_false_iff_eq.mpr c6; clear c6; have H' := af.mk H; clear H; have p5 : (0 ≤ (x4_1 : Int)) = True := dT_; have q5 : (x4_1 < (a0.size : Int)) = True := dT_; have hx5 := bS a0 x4_1
    go_wp2
    go_meet
    case rel => exact ⟨_, (x4_1), sr_, H', ⟨ol_ HK1.1⟩, by repeat (first | exact aK.refl _ | apply aK.step)⟩
   have c6b0 := beq_eq_false_iff_ne.mpr c6; have c6b1 := bne_iff_ne.mpr c6; have H' := af.mk H; clear H; have p5 : (0 ≤ (x4_1 : Int)) = True := dT_; have q5 : (x4_1 < (a0.size : Int)) = True := dT_; have hx5 := bS a0 x4_1
   go_wp2
   go_roundg k1
   case measure => have := HK1.1; omega
   case rel => exact ⟨(wrap64 (x4_1 + 1)), sr_, H', ⟨om_ HK1.1⟩, by repeat (first | exact aK.refl _ | apply aK.step)⟩
 case rest =>
  clear HC2; obtain ⟨kq, x4_1, rfl, HA, HJ1, ⟨mc1, rfl⟩⟩ := hcut
  cases kq with
  | zero => exact absurd HA.1 (by simp [ay.j1])
  | succ kj1 =>
   have H := HA.1; clear HA; simp only [ay.j1] at H; replace H := gt_ H; obtain ⟨c7b0, c7b1, H⟩ := H; replace H := gt_ H; obtain ⟨c8b0, c8b1, H⟩ := H; have HC9 := af.mk H; clear H
   go_upto_if 28 with (fail)
   go_cut [6] (fun v6 wc => ∃ (kq : Nat) (x6_8 : ByteArray), v6 = .string x6_8 ∧ af (ay.j2 kq (a0.extract 0 (x4_1 : Int).toNat) x6_8 = some (r1, r2)) ∧ af (kq ≤ kj1) ∧ aK w wc)
   case first =>
    have H := HC9.1; clear HC9; replace H := (sd_ H).symm; obtain ⟨c10b0, H⟩ | ⟨c10b0, H⟩ := H
    ·
     (first | rw [c10b0] | (simp only [cz, cK]; rw [c10b0]) | skip)
     have H' := af.mk H; clear H
     go_wp2
     go_meet
     case rel => exact ⟨_, ((⟨#[]⟩ : ByteArray)), sr_, H', ⟨by have := HJ1.1; first | omega | exact Nat.le_refl _⟩, by repeat (first | exact aK.refl _ | apply aK.step)⟩
    (first | rw [c10b0] | (simp only [cz, cK]; rw [c10b0]) | skip)
    obtain ⟨ji11, hji11⟩ : ∃ j_ : Int, (wrap64 (x4_1 + 1)) = j_ := ⟨_, rfl⟩; replace H : (if 0 ≤ (ji11) then (if (ji11) ≤ (a0.size : Int) then ((bz.f kj1 (a0.extract ((ji11) : Int).toNat a0.size)).bind fun t210 => (if t210 = true then (if ((a0.extract ((ji11) : Int).toNat a0.size).size : Int) > 3 then (some (0, 2)) else (ay.j2 kj1 (a0.extract 0 (x4_1 : Int).toNat) (a0.extract ((ji11) : Int).toNat a0.size))) else (some (0, 2)))) else (none)) else (none)) = some (r1, r2) := by first | (rw [hji11] at H; exact H) | (simp only [hji11] at H ⊢; exact H)
    have hji11w : (IntKind.i64.wrap (x4_1 + 1)) = ji11 := (cz _).trans hji11; replace H := gt_ H; obtain ⟨c12b0, c12b1, H⟩ := H; replace H := gt_ H; obtain ⟨c13b0, c13b1, H⟩ := H; replace H := bn_ H; obtain ⟨t210, A14, H⟩ := H; (try dsimp only at H); replace H := (sb_ H).symm; obtain ⟨rfl, H⟩ | ⟨rfl, H⟩ := H
    ·
     simp only [Option.some.injEq, Prod.mk.injEq] at H; obtain ⟨rfl, rfl⟩ := H
     go_wp2_with (first | ((with_reducible refine aj (f := 101) rfl ?_); refine dW (some 34) rfl rfl Tryz.func101 (by kernel_rfl) rfl #[.string (a0.extract ((ji11) : Int).toNat a0.size)] rfl (by (try simp only [List.map_toArray, List.map_cons, List.map_nil]); first | done | (simp only [hji11]; rfl) | rfl | (simp only [List.length_drop, List.length_take]; rfl)) ?_; (with_reducible refine (bz.calls kj1 (a0.extract ((ji11) : Int).toNat a0.size) false _ A14.1).mono ?_); rintro e w' ⟨rfl, ⟨nd, rfl⟩⟩; refine ⟨_, rfl, ?_⟩))
     go_ret2
     exact ⟨by first | rfl | (simp; done) | (simp only [← hji11] <;> (first | rfl | simp)) | (simp [*]; done), by repeat (first | exact aK.refl _ | apply aK.step)⟩
    replace H := sp_ H; obtain ⟨c16, H⟩ | ⟨c16, H⟩ := H
    ·
     have c16b0 := decide_eq_true c16; have c16b1 : decide (3 < (a0.extract ((ji11) : Int).toNat a0.size).size) = true := decide_eq_true (by omega); (try (have c16e0 := c16b0; simp only [ByteArray.size_extract, Nat.min_self, Nat.sub_zero] at c16e0)); (try (have c16e1 := c16b1; simp only [ByteArray.size_extract, Nat.min_self, Nat.sub_zero] at c16e1)); clear c16; simp only [Option.some.injEq, Prod.mk.injEq] at H; obtain ⟨rfl, rfl⟩ := H
     go_wp2_with (first | ((with_reducible refine aj (f := 101) rfl ?_); refine dW (some 34) rfl rfl Tryz.func101 (by kernel_rfl) rfl #[.string (a0.extract ((ji11) : Int).toNat a0.size)] rfl (by (try simp only [List.map_toArray, List.map_cons, List.map_nil]); first | done | (simp only [hji11]; rfl) | rfl | (simp only [List.length_drop, List.length_take]; rfl)) ?_; (with_reducible refine (bz.calls kj1 (a0.extract ((ji11) : Int).toNat a0.size) true _ A14.1).mono ?_); rintro e w' ⟨rfl, ⟨nd, rfl⟩⟩; refine ⟨_, rfl, ?_⟩))
     go_ret2
     exact ⟨by first | rfl | (simp; done) | (simp only [← hji11] <;> (first | rfl | simp)) | (simp [*]; done), by repeat (first | exact aK.refl _ | apply aK.step)⟩
    have c16b0 := decide_eq_false c16; have c16b1 : decide (3 < (a0.extract ((ji11) : Int).toNat a0.size).size) = false := decide_eq_false (by omega); (try (have c16e0 := c16b0; simp only [ByteArray.size_extract, Nat.min_self, Nat.sub_zero] at c16e0)); (try (have c16e1 := c16b1; simp only [ByteArray.size_extract, Nat.min_self, Nat.sub_zero] at c16e1)); clear c16; have H' := af.mk H; clear H
    go_wp2_with (first | ((with_reducible refine aj (f := 101) rfl ?_); refine dW (some 34) rfl rfl Tryz.func101 (by kernel_rfl) rfl #[.string (a0.extract ((ji11) : Int).toNat a0.size)] rfl (by (try simp only [List.map_toArray, List.map_cons, List.map_nil]); first | done | (simp only [hji11]; rfl) | rfl | (simp only [List.length_drop, List.length_take]; rfl)) ?_; (with_reducible refine (bz.calls kj1 (a0.extract ((ji11) : Int).toNat a0.size) true _ A14.1).mono ?_); rintro e w' ⟨rfl, ⟨nd, rfl⟩⟩; refine ⟨_, rfl, ?_⟩))
    go_meet
    case rel => exact ⟨_, (a0.extract ((ji11) : Int).toNat a0.size), (by first | rfl | (simp; done) | (simp only [← hji11] <;> (first | rfl | simp)) | (simp [*]; done)), H', ⟨by have := HJ1.1; first | omega | exact Nat.le_refl _⟩, by repeat (first | exact aK.refl _ | apply aK.step)⟩
   case rest =>
    clear HC9; (try clear c7); (try clear c7b0); (try clear c7b1); (try clear c8); (try clear c8b0); (try clear c8b1); obtain ⟨kq, x6_8, rfl, HA, HJ8, ⟨mc8, rfl⟩⟩ := hcut
    cases kq with
    | zero => exact absurd HA.1 (by simp [ay.j2])
    | succ kj8 =>
     have H := HA.1; clear HA; simp only [ay.j2] at H; have HC17 := af.mk H; clear H
     go_upto_region 9 with (fail)
     go_cut [53] (fun v53 wc => ∃ (kq : Nat) (x53_16 : Bool), v53 = .bool x53_16 ∧ af (ay.j3 kq (a0.extract 0 (x4_1 : Int).toNat) x6_8 x53_16 = some (r1, r2)) ∧ af (kq ≤ kj8) ∧ aK w wc)
     case first =>
      have H := HC17.1; clear HC17; replace H := bn_ H; obtain ⟨t211, A18, H⟩ := H; (try dsimp only at H); replace H := (sb_ H).symm; obtain ⟨rfl, H⟩ | ⟨rfl, H⟩ := H
      ·
       have H' := af.mk H; clear H
       go_wp2_with (first | ((with_reducible refine aj (f := 101) rfl ?_); refine gk_ (some 42) Tryz.func101 (bz.calls kj8 (a0.extract 0 (x4_1 : Int).toNat) false _ A18.1) ?_; rintro e w' ⟨rfl, ⟨nd, rfl⟩⟩; refine ⟨_, rfl, ?_⟩))
       go_meet
       case rel => exact ⟨_, (true), sr_, H', ⟨by have := HJ1.1; have := HJ8.1; first | omega | exact Nat.le_refl _⟩, by repeat (first | exact aK.refl _ | apply aK.step)⟩
      replace H := (sp_ H).symm; obtain ⟨c20, H⟩ | ⟨c20, H⟩ := H
      ·
       have c20b0 := decide_eq_false c20; have c20b1 : decide (1 < (a0.extract 0 (x4_1 : Int).toNat).size) = false := decide_eq_false (by omega); (try (have c20e0 := c20b0; simp only [ByteArray.size_extract, Nat.min_self, Nat.sub_zero] at c20e0)); (try (have c20e1 := c20b1; simp only [ByteArray.size_extract, Nat.min_self, Nat.sub_zero] at c20e1)); (try (have c20g0 := c20b0; simp only [ByteArray.size_extract, Nat.sub_zero, Nat.min_eq_left (show (x4_1 : Int).toNat ≤ a0.size from by have h_ : (x4_1 : Int) ≤ (a0.size : Int) := dt_; omega)] at c20g0)); (try (have c20g1 := c20b1; simp only [ByteArray.size_extract, Nat.sub_zero, Nat.min_eq_left (show (x4_1 : Int).toNat ≤ a0.size from by have h_ : (x4_1 : Int) ≤ (a0.size : Int) := dt_; omega)] at c20g1)); clear c20
       (first | rw [c20b0] | (simp only [cz, cK]; rw [c20b0]) | skip)
       have H' := af.mk H; clear H
       go_wp2_with (first | ((with_reducible refine aj (f := 101) rfl ?_); refine gk_ (some 42) Tryz.func101 (bz.calls kj8 (a0.extract 0 (x4_1 : Int).toNat) true _ A18.1) ?_; rintro e w' ⟨rfl, ⟨nd, rfl⟩⟩; refine ⟨_, rfl, ?_⟩))
       go_meet
       case rel => exact ⟨_, (false), sr_, H', ⟨by have := HJ1.1; have := HJ8.1; first | omega | exact Nat.le_refl _⟩, by repeat (first | exact aK.refl _ | apply aK.step)⟩
      have c20b0 := decide_eq_true c20; have c20b1 : decide (1 < (a0.extract 0 (x4_1 : Int).toNat).size) = true := decide_eq_true (by omega); (try (have c20e0 := c20b0; simp only [ByteArray.size_extract, Nat.min_self, Nat.sub_zero] at c20e0)); (try (have c20e1 := c20b1; simp only [ByteArray.size_extract, Nat.min_self, Nat.sub_zero] at c20e1)); (try (have c20g0 := c20b0; simp only [ByteArray.size_extract, Nat.sub_zero, Nat.min_eq_left (show (x4_1 : Int).toNat ≤ a0.size from by have h_ : (x4_1 : Int) ≤ (a0.size : Int) := dt_; omega)] at c20g0)); (try (have c20g1 := c20b1; simp only [ByteArray.size_extract, Nat.sub_zero, Nat.min_eq_left (show (x4_1 : Int).toNat ≤ a0.size from by have h_ : (x4_1 : Int) ≤ (a0.size : Int) := dt_; omega)] at c20g1)); clear c20
      (first | rw [c20b0] | (simp only [cz, cK]; rw [c20b0]) | skip)
      replace H := gp_ H; obtain ⟨c21, H⟩ := H; have c21b0 := decide_eq_true c21; have c21b1 : decide (0 < (a0.extract 0 (x4_1 : Int).toNat).size) = true := decide_eq_true (by omega); (try (have c21e0 := c21b0; simp only [ByteArray.size_extract, Nat.min_self, Nat.sub_zero] at c21e0)); (try (have c21e1 := c21b1; simp only [ByteArray.size_extract, Nat.min_self, Nat.sub_zero] at c21e1)); (try (have c21g0 := c21b0; simp only [ByteArray.size_extract, Nat.sub_zero, Nat.min_eq_left (show (x4_1 : Int).toNat ≤ a0.size from by have h_ : (x4_1 : Int) ≤ (a0.size : Int) := dt_; omega)] at c21g0)); (try (have c21g1 := c21b1; simp only [ByteArray.size_extract, Nat.sub_zero, Nat.min_eq_left (show (x4_1 : Int).toNat ≤ a0.size from by have h_ : (x4_1 : Int) ≤ (a0.size : Int) := dt_; omega)] at c21g1)); clear c21; have H' := af.mk H; clear H
      go_wp2_with (first | ((with_reducible refine aj (f := 101) rfl ?_); refine gk_ (some 42) Tryz.func101 (bz.calls kj8 (a0.extract 0 (x4_1 : Int).toNat) true _ A18.1) ?_; rintro e w' ⟨rfl, ⟨nd, rfl⟩⟩; refine ⟨_, rfl, ?_⟩; have p22 : 0 ≤ (0 : Int) := (by omega); have q22 : 0 < (a0.extract 0 (x4_1 : Int).toNat).size := (by have : (0 : Int) < ((a0.extract 0 (x4_1 : Int).toNat).size : Int) := dt_; omega); have hx22 : ∀ h : 0 < (a0.extract 0 (x4_1 : Int).toNat).size, (((a0.extract 0 (x4_1 : Int).toNat)[0]'h).toNat : Int) = bt (a0.extract 0 (x4_1 : Int).toNat) 0 := bS (a0.extract 0 (x4_1 : Int).toNat) 0; clear p22; have qi22 : (0 < ((a0.extract 0 (x4_1 : Int).toNat).size : Int)) = True := eq_true (dt_); (try (have qe22 := q22; simp only [ByteArray.size_extract, Nat.min_self, Nat.sub_zero] at qe22; replace qe22 := eq_true qe22)); (try (have qc22 : (0 : Int) < ((a0.extract 0 (x4_1 : Int).toNat).size : Int) := by omega; simp only [ByteArray.size_extract, Nat.min_self, Nat.sub_zero] at qc22; replace qc22 := eq_true qc22)); replace q22 := eq_true q22))
      go_meet
      case rel => exact ⟨_, (((bt (a0.extract 0 (x4_1 : Int).toNat) 0) == 48)), sr_, H', ⟨by have := HJ1.1; have := HJ8.1; first | omega | exact Nat.le_refl _⟩, by repeat (first | exact aK.refl _ | apply aK.step)⟩
     case rest =>
      clear HC17; (try clear c7); (try clear c7b0); (try clear c7b1); (try clear c8); (try clear c8b0); (try clear c8b1); obtain ⟨kq, x53_16, rfl, HA, HJ16, ⟨mc16, rfl⟩⟩ := hcut
      cases kq with
      | zero => exact absurd HA.1 (by simp [ay.j3])
      | succ kj16 =>
       have H := HA.1; clear HA; simp only [ay.j3] at H; replace H := sb_ H; obtain ⟨rfl, H⟩ | ⟨rfl, H⟩ := H
       ·
        simp only [Option.some.injEq, Prod.mk.injEq] at H; obtain ⟨rfl, rfl⟩ := H
        go_wp2
        go_ret2
        exact ⟨by first | rfl | (simp; done) | (simp [*]; done) | (simp <;> rfl), by repeat (first | exact aK.refl _ | apply aK.step)⟩
       replace H := sp_ H; obtain ⟨c24, H⟩ | ⟨c24, H⟩ := H
       ·
        have c24b0 := decide_eq_true c24; have c24b1 : decide (10 < (a0.extract 0 (x4_1 : Int).toNat).size) = true := decide_eq_true (by omega); (try (have c24e0 := c24b0; simp only [ByteArray.size_extract, Nat.min_self, Nat.sub_zero] at c24e0)); (try (have c24e1 := c24b1; simp only [ByteArray.size_extract, Nat.min_self, Nat.sub_zero] at c24e1)); (try (have c24g0 := c24b0; simp only [ByteArray.size_extract, Nat.sub_zero, Nat.min_eq_left (show (x4_1 : Int).toNat ≤ a0.size from by have h_ : (x4_1 : Int) ≤ (a0.size : Int) := dt_; omega)] at c24g0)); (try (have c24g1 := c24b1; simp only [ByteArray.size_extract, Nat.sub_zero, Nat.min_eq_left (show (x4_1 : Int).toNat ≤ a0.size from by have h_ : (x4_1 : Int) ≤ (a0.size : Int) := dt_; omega)] at c24g1)); clear c24; simp only [Option.some.injEq, Prod.mk.injEq] at H; obtain ⟨rfl, rfl⟩ := H
        go_wp2
        go_ret2
        exact ⟨by first | rfl | (simp; done) | (simp [*]; done) | (simp <;> rfl), by repeat (first | exact aK.refl _ | apply aK.step)⟩
       have c24b0 := decide_eq_false c24; have c24b1 : decide (10 < (a0.extract 0 (x4_1 : Int).toNat).size) = false := decide_eq_false (by omega); (try (have c24e0 := c24b0; simp only [ByteArray.size_extract, Nat.min_self, Nat.sub_zero] at c24e0)); (try (have c24e1 := c24b1; simp only [ByteArray.size_extract, Nat.min_self, Nat.sub_zero] at c24e1)); (try (have c24g0 := c24b0; simp only [ByteArray.size_extract, Nat.sub_zero, Nat.min_eq_left (show (x4_1 : Int).toNat ≤ a0.size from by have h_ : (x4_1 : Int) ≤ (a0.size : Int) := dt_; omega)] at c24g0)); (try (have c24g1 := c24b1; simp only [ByteArray.size_extract, Nat.sub_zero, Nat.min_eq_left (show (x4_1 : Int).toNat ≤ a0.size from by have h_ : (x4_1 : Int) ≤ (a0.size : Int) := dt_; omega)] at c24g1)); clear c24; have H' := af.mk H; clear H
       go_wp2
       go_loopg [7, 8] kj16 (fun kq v7 v8 w' => ∃ (x7_4 : Int) (x8_4 : Int), v7 = .int .i64 x7_4 ∧ v8 = .int .i64 x8_4 ∧ af (ay.l1 kq (a0.extract 0 (x4_1 : Int).toNat) x6_8 x7_4 x8_4 = some (r1, r2)) ∧ af (kq ≤ kj16) ∧ aK w w')
       case atStart => exact ⟨(0), (0), sr_, sr_, H', ⟨Nat.le_refl _⟩, by repeat (first | exact aK.refl _ | apply aK.step)⟩
       case round =>
        clear H'; (try clear c7); (try clear c7b0); (try clear c7b1); (try clear c8); (try clear c8b0); (try clear c8b1); (try clear c23); (try clear c24g0); (try clear c24g1); (try clear c24); (try clear c24e0); (try clear c24e1); (try clear c24b0); (try clear c24b1); obtain ⟨x7_4, x8_4, rfl, rfl, HA, HK4, ⟨m4, rfl⟩⟩ := hrel; obtain _ | k4 := gk
        · exact absurd HA.1 (by simp [ay.l1])
        have H := HA.1; clear HA; simp only [ay.l1] at H; replace H := sp_ H; obtain ⟨c25, H⟩ | ⟨c25, H⟩ := H
        ·
         have c25b0 := decide_eq_true c25; (try (have c25e0 := c25b0; simp only [ByteArray.size_extract, Nat.min_self, Nat.sub_zero] at c25e0)); (try (have c25g0 := c25b0; simp only [ByteArray.size_extract, Nat.sub_zero, Nat.min_eq_left (show (x4_1 : Int).toNat ≤ a0.size from by have h_ : (x4_1 : Int) ≤ (a0.size : Int) := dt_; omega)] at c25g0)); clear c25; replace H := gd_ H; obtain ⟨c26b0, H⟩ := H; have H' := af.mk H; clear H; have p27 : (0 ≤ (x8_4 : Int)) = True := dT_; have q27 : x8_4 < ((a0.extract 0 (x4_1 : Int).toNat).size : Int) := dt_; have hx27 := bS (a0.extract 0 (x4_1 : Int).toNat) x8_4; (try (have qe27 := q27; simp only [ByteArray.size_extract, Nat.min_self, Nat.sub_zero] at qe27; replace qe27 := eq_true qe27)); (try (have qc27 : (x8_4 : Int) < ((a0.extract 0 (x4_1 : Int).toNat).size : Int) := by omega; simp only [ByteArray.size_extract, Nat.min_self, Nat.sub_zero] at qc27; replace qc27 := eq_true qc27)); replace q27 := eq_true q27
         go_wp2
         go_roundg k4
         case measure => have := HJ1.1; have := HJ8.1; have := HJ16.1; have := HK4.1; omega
         case rel => exact ⟨(wrap64 ((wrap64 (10 * x7_4)) + (((bt (a0.extract 0 (x4_1 : Int).toNat) x8_4) - 48) % 256))), (wrap64 (x8_4 + 1)), sr_, sr_, H', ⟨by have := HJ1.1; have := HJ8.1; have := HJ16.1; have := HK4.1; omega⟩, by repeat (first | exact aK.refl _ | apply aK.step)⟩
        have c25b0 := decide_eq_false c25; (try (have c25e0 := c25b0; simp only [ByteArray.size_extract, Nat.min_self, Nat.sub_zero] at c25e0)); (try (have c25g0 := c25b0; simp only [ByteArray.size_extract, Nat.sub_zero, Nat.min_eq_left (show (x4_1 : Int).toNat ≤ a0.size from by have h_ : (x4_1 : Int) ≤ (a0.size : Int) := dt_; omega)] at c25g0)); clear c25; have H' := af.mk H; clear H
        go_wp2
        go_loopg [7, 9] k4 (fun kq v7 v9 w' => ∃ (x7_5 : Int) (x9_5 : Int), v7 = .int .i64 x7_5 ∧ v9 = .int .i64 x9_5 ∧ af (ay.l2 kq x6_8 x7_5 x9_5 = some (r1, r2)) ∧ af (kq ≤ k4) ∧ aK w w')
        case atStart => exact ⟨(x7_4), (0), sr_, sr_, H', ⟨Nat.le_refl _⟩, by repeat (first | exact aK.refl _ | apply aK.step)⟩
        case round =>
         clear H'; (try clear c7); (try clear c7b0); (try clear c7b1); (try clear c8); (try clear c8b0); (try clear c8b1); (try clear c23); (try clear c24g0); (try clear c24g1); (try clear c24); (try clear c24e0); (try clear c24e1); (try clear c24b0); (try clear c24b1); (try clear c25g0); (try clear c25); (try clear c25e0); (try clear c25b0); obtain ⟨x7_5, x9_5, rfl, rfl, HA, HK5, ⟨m5, rfl⟩⟩ := hrel; obtain _ | k5 := gk
         · exact absurd HA.1 (by simp [ay.l2])
         have H := HA.1; clear HA; simp only [ay.l2] at H; replace H := (sd_ H).symm; obtain ⟨c28b0, H⟩ | ⟨c28b0, H⟩ := H
         ·
          replace H := sd_ H; obtain ⟨c32b0, H⟩ | ⟨c32b0, H⟩ := H
          ·
           simp only [Option.some.injEq, Prod.mk.injEq] at H; obtain ⟨rfl, rfl⟩ := H
           go_wp2
           go_ret2
           exact ⟨by first | rfl | (simp; done) | (simp [*]; done) | (simp <;> rfl), by repeat (first | exact aK.refl _ | apply aK.step)⟩
          simp only [Option.some.injEq, Prod.mk.injEq] at H; obtain ⟨rfl, rfl⟩ := H
          go_wp2
          go_ret2
          exact ⟨by first | rfl | (simp; done) | (simp [*]; done) | (simp <;> rfl), by repeat (first | exact aK.refl _ | apply aK.step)⟩
         replace H := (sd_ H).symm; obtain ⟨c29b0, H⟩ | ⟨c29b0, H⟩ := H
         ·
          have H' := af.mk H; clear H
          go_wp2
          go_roundg k5
          case measure => have := HJ1.1; have := HJ8.1; have := HJ16.1; have := HK4.1; have := HK5.1; omega
          case rel => exact ⟨(wrap64 (x7_5 * 10)), (wrap64 (x9_5 + 1)), sr_, sr_, H', ⟨by have := HJ1.1; have := HJ8.1; have := HJ16.1; have := HK4.1; have := HK5.1; omega⟩, by repeat (first | exact aK.refl _ | apply aK.step)⟩
         replace H := gd_ H; obtain ⟨c30b0, H⟩ := H; have H' := af.mk H; clear H; have p31 : (0 ≤ (x9_5 : Int)) = True := dT_; have q31 : (x9_5 < (x6_8.size : Int)) = True := dT_; have hx31 := bS x6_8 x9_5
         go_wp2
         go_roundg k5
         case measure => have := HJ1.1; have := HJ8.1; have := HJ16.1; have := HK4.1; have := HK5.1; omega
         case rel => exact ⟨(wrap64 ((wrap64 (x7_5 * 10)) + (((bt x6_8 x9_5) - 48) % 256))), (wrap64 (x9_5 + 1)), sr_, sr_, H', ⟨by have := HJ1.1; have := HJ8.1; have := HJ16.1; have := HK4.1; have := HK5.1; omega⟩, by repeat (first | exact aK.refl _ | apply aK.step)⟩
mutual
def aG.j1 : Nat → ByteArray → Int → Int → Option (Int × ByteArray × Int × Int × Int × Int)
 | 0, _, _, _ => none
 | k + 1, x0, x1, x7 => if 0 ≤ x1 then (if x1 ≤ x7 then (if x7 ≤ (x0.size : Int) then (if x1 < (x0.size : Int) then (if (bt x0 x1) = 34 then (aG.l1 k x0 x1 (wrap64 (x1 + 1))) else ((bF.f k (bt x0 x1)).bind fun t215 => (if t215 = true then (if x1 ≤ (wrap64 (x1 + 1)) then (if (wrap64 (x1 + 1)) ≤ (x0.size : Int) then (some (4, x0.extract (x1 : Int).toNat ((wrap64 (x1 + 1)) : Int).toNat, 0, x1, wrap64 (x1 + 1), 0)) else (none)) else (none)) else (if (x0.extract (x1 : Int).toNat (x7 : Int).toNat).toList = ([] : List UInt8) then (some (0, (⟨#[]⟩ : ByteArray), 0, 0, 0, 2)) else ((bA.f k (x0.extract (x1 : Int).toNat (x7 : Int).toNat) true false).bind fun t216 => (if t216 = true then ((bA.f k (x0.extract (x1 : Int).toNat (x7 : Int).toNat) false true).bind fun t217 => (if t217 = true then (some (0, (⟨#[]⟩ : ByteArray), 0, 0, 0, 2)) else (if ((x0.extract (x1 : Int).toNat (x7 : Int).toNat).size : Int) > 32 then (some (0, (⟨#[]⟩ : ByteArray), 0, 0, 0, 6)) else (some (1, x0.extract (x1 : Int).toNat (x7 : Int).toNat, 0, x1, x7, 0))))) else ((ay.f k (x0.extract (x1 : Int).toNat (x7 : Int).toNat)).bind fun bt218 => (if bt218.2 = 0 then (some (2, (⟨#[]⟩ : ByteArray), bt218.1, x1, x7, 0)) else (some (0, (⟨#[]⟩ : ByteArray), 0, 0, 0, bt218.2)))))))))) else (none)) else (none)) else (none)) else (none)
def aG.j3 : Nat → ByteArray → Int → Int → Option (Int × ByteArray × Int × Int × Int × Int)
 | 0, _, _, _ => none
 | k + 1, x0, x1, x7 => if x7 = (x0.size : Int) then (aG.j4 k x0 x1 x7 true) else (if 0 ≤ x7 then (if x7 < (x0.size : Int) then (aG.j4 k x0 x1 x7 ((bt x0 x7) != 34)) else (none)) else (none))
def aG.j4 : Nat → ByteArray → Int → Int → Bool → Option (Int × ByteArray × Int × Int × Int × Int)
 | 0, _, _, _, _ => none
 | k + 1, x0, x1, x7, x70 => if x70 = true then (some (0, (⟨#[]⟩ : ByteArray), 0, 0, 0, 2)) else (if 0 ≤ (wrap64 (x1 + 1)) then (if (wrap64 (x1 + 1)) ≤ x7 then (if x7 ≤ (x0.size : Int) then ((aX.f k (x0.extract ((wrap64 (x1 + 1)) : Int).toNat (x7 : Int).toNat)).bind fun t214 => (if t214 = 0 then (some (3, x0.extract ((wrap64 (x1 + 1)) : Int).toNat (x7 : Int).toNat, 0, x1, wrap64 (x7 + 1), 0)) else (some (0, (⟨#[]⟩ : ByteArray), 0, 0, 0, t214)))) else (none)) else (none)) else (none))
def aG.l1 : Nat → ByteArray → Int → Int → Option (Int × ByteArray × Int × Int × Int × Int)
 | 0, _, _, _ => none
 | k + 1, x0, x1, x7 => if x7 < (x0.size : Int) then (if 0 ≤ x7 then (if (bt x0 x7) = 34 then (aG.j3 k x0 x1 x7) else (if (bt x0 x7) = 10 then (aG.j3 k x0 x1 x7) else (aG.l1 k x0 x1 (wrap64 (x7 + 1))))) else (none)) else (aG.j3 k x0 x1 x7)
def aG.l0 : Nat → ByteArray → Int → Int → Option (Int × ByteArray × Int × Int × Int × Int)
 | 0, _, _, _ => none
 | k + 1, x0, x1, x7 => if x7 < (x0.size : Int) then (if 0 ≤ x7 then ((eH.f (bt x0 x7)).bind fun t213 => (if t213 = true then (aG.l0 k x0 x1 (wrap64 (x7 + 1))) else (aG.j1 k x0 x1 x7))) else (none)) else (aG.j1 k x0 x1 x7)
end
def aG.f (k : Nat) (a0 : ByteArray) (a1 : Int) : Option (Int × ByteArray × Int × Int × Int × Int) := if a1 = (a0.size : Int) then (some (5, (⟨#[]⟩ : ByteArray), 0, a1, a1, 0)) else (aG.l0 k a0 a1 a1)
theorem aG.calls (k : Nat) (a0 : ByteArray) (a1 : Int) (r1 : Int) (r2 : ByteArray) (r3 : Int) (r4 : Int) (r5 : Int) (r6 : Int) (w : World) (h : aG.f k a0 a1 = some (r1, r2, r3, r4, r5, r6)) :
  Calls Tryz.prog 64 #[.string a0, .int .i64 a1] w fun e w' => e = .returned (.tuple #[.agg #[.int .i64 r1, .string r2, .int .i64 r3, .int .i64 r4], .int .i64 r5, .int .i64 r6]) ∧ Below w.heap.size w w' := by
 have hu46 := Tryz.underlying50; have HB := af.mk (Below.refl w.heap.size w); have H : (if a1 = (a0.size : Int) then (some (5, (⟨#[]⟩ : ByteArray), 0, a1, a1, 0)) else (aG.l0 k a0 a1 a1)) = some (r1, r2, r3, r4, r5, r6) := h; clear h; replace H := sp_ H; obtain ⟨c3, H⟩ | ⟨c3, H⟩ := H
 ·
  have c3b0 := beq_iff_eq.mpr c3; have c3b1 := bne_eq_false_iff_eq.mpr c3; clear c3; simp only [Option.some.injEq, Prod.mk.injEq] at H; obtain ⟨rfl, rfl, rfl, rfl, rfl, rfl⟩ := H
  go_enter Tryz.func64, Tryz.ntmps64
  go_wp2_with (first | ((with_reducible refine aA (N := 4) rfl ?_); refine bx_ (N := 4) (cs := #[.int .i64 0, .string (⟨#[]⟩ : ByteArray), .int .i64 0, .int .i64 0]) (t := 50) ?_; intro gb212 hg w4 hbox hb; refine df (ah (bl_ HB.1) hb) (hbox) (bz_ (w := w) hg (bl_ HB.1)) (bz_ (w := w) hg (bl_ HB.1)) ?_; clear HB; intro HB BK212 GW212 GE212; clear hb hbox hg; obtain ⟨hcz5_0, hcz5_1, hcz5_2, hcz5_3, hfz5_0, hfz5_1, hfz5_2, hfz5_3⟩ := cq4_ BK212.1))
  refine bodyPost_ret (dz rfl _ _ gb212 50 #[.int .i64 5, .string (⟨#[]⟩ : ByteArray), .int .i64 0, .int .i64 a1] (0, 0) _ rfl (by exact dK (bk_ BK212.1)) Tryz.underlying50 rfl (by kernel_rfl)) rfl ?_; exact ⟨er_, bl1_ HB.1 GE212.1⟩
 have c3b0 := beq_eq_false_iff_ne.mpr c3; have c3b1 := bne_iff_ne.mpr c3; have HC6 := af.mk H; clear H
 go_enter Tryz.func64, Tryz.ntmps64
 go_upto_block 0 with (first | ((with_reducible refine aA (N := 4) rfl ?_); refine bx_ (N := 4) (cs := #[.int .i64 0, .string (⟨#[]⟩ : ByteArray), .int .i64 0, .int .i64 0]) (t := 50) ?_; intro gb212 hg w7 hbox hb; have n0_ := af.mk (ah (bl_ HB.1) hb); have n1_ := af.mk (hbox); have n2_ := af.mk (bz_ (w := w) hg (bl_ HB.1)); have n3_ := af.mk (bz_ (w := w) hg (bl_ HB.1)); clear HB; have HB := n0_; have BK212 := n1_; have GW212 := n2_; have GE212 := n3_; clear n0_ n1_ n2_ n3_; clear hb hbox hg))
 (try simp only [Act.put, List.setIfInBounds_toArray, List.set_cons_zero, List.set_cons_succ])
 go_cut [7] (fun v7 wc => ∃ (kq : Nat) (x7_5 : Int), v7 = .int .i64 x7_5 ∧ af (aG.j1 kq a0 a1 x7_5 = some (r1, r2, r3, r4, r5, r6)) ∧ af (kq ≤ k) ∧ af (wc.heap[gb212]? = some (.cells #[.int .i64 0, .string (⟨#[]⟩ : ByteArray), .int .i64 0, .int .i64 0] 50 (0, 0))) ∧ af (Below w.heap.size w wc))
 case first =>
  have H := HC6.1; clear HC6; have H' := af.mk H; clear H
  go_wp2
  go_loopg [7] k (fun kq v7 w' => ∃ (x7_1 : Int), v7 = .int .i64 x7_1 ∧ af (aG.l0 kq a0 a1 x7_1 = some (r1, r2, r3, r4, r5, r6)) ∧ af (kq ≤ k) ∧ af (w'.heap[gb212]? = some (.cells #[.int .i64 0, .string (⟨#[]⟩ : ByteArray), .int .i64 0, .int .i64 0] 50 (0, 0))) ∧ af (Below w.heap.size w w'))
  case atStart => exact ⟨(a1), sr_, H', ⟨Nat.le_refl _⟩, ⟨bk_ BK212.1⟩, ⟨bl1_ HB.1 GE212.1⟩⟩
  case round =>
   clear H'; (try clear c3); (try clear c3b0); (try clear c3b1); obtain ⟨x7_1, rfl, HA, HK1, BK212, HB⟩ := hrel; obtain _ | k1 := gk
   · exact absurd HA.1 (by simp [aG.l0])
   have H := HA.1; clear HA; simp only [aG.l0] at H; replace H := (sd_ H).symm; obtain ⟨c8b0, H⟩ | ⟨c8b0, H⟩ := H
   ·
    (first | rw [c8b0] | (simp only [cz, cK]; rw [c8b0]) | skip)
    have H' := af.mk H; clear H
    go_wp2
    go_meet
    case rel => exact ⟨_, (x7_1), sr_, H', ⟨ol_ HK1.1⟩, ⟨bk_ BK212.1⟩, ⟨bl1_ HB.1 GE212.1⟩⟩
   (first | rw [c8b0] | (simp only [cz, cK]; rw [c8b0]) | skip)
   replace H := gd_ H; obtain ⟨c9b0, H⟩ := H; replace H := bn_ H; obtain ⟨t213, A11, H⟩ := H; (try dsimp only at H); replace H := sb_ H; obtain ⟨rfl, H⟩ | ⟨rfl, H⟩ := H
   ·
    have H' := af.mk H; clear H; have p10 : (0 ≤ (x7_1 : Int)) = True := dT_; have q10 : (x7_1 < (a0.size : Int)) = True := dT_; have hx10 := bS a0 x7_1
    go_wp2_with (first | (go_at_call 80; (with_reducible refine (eH.calls (bt a0 x7_1) true _ A11.1).mono ?_); rintro e w' ⟨rfl, ⟨nd, rfl⟩⟩))
    go_roundg k1
    case measure => have := HK1.1; omega
    case rel => exact ⟨(wrap64 (x7_1 + 1)), sr_, H', ⟨om_ HK1.1⟩, ⟨bk_ BK212.1⟩, ⟨bl1_ HB.1 GE212.1⟩⟩
   have H' := af.mk H; clear H; have p10 : (0 ≤ (x7_1 : Int)) = True := dT_; have q10 : (x7_1 < (a0.size : Int)) = True := dT_; have hx10 := bS a0 x7_1
   go_wp2_with (first | (go_at_call 80; (with_reducible refine (eH.calls (bt a0 x7_1) false _ A11.1).mono ?_); rintro e w' ⟨rfl, ⟨nd, rfl⟩⟩))
   go_meet
   case rel => exact ⟨_, (x7_1), sr_, H', ⟨ol_ HK1.1⟩, ⟨bk_ BK212.1⟩, ⟨bl1_ HB.1 GE212.1⟩⟩
 case rest =>
  clear HC6; (try clear c3); (try clear c3b0); (try clear c3b1); obtain ⟨kq, x7_5, rfl, HA, HJ5, BK212, HB⟩ := hcut
  cases kq with
  | zero => exact absurd HA.1 (by simp [aG.j1])
  | succ kj5 =>
   have H := HA.1; clear HA; simp only [aG.j1] at H; replace H := gt_ H; obtain ⟨c13b0, c13b1, H⟩ := H; replace H := gt_ H; obtain ⟨c14b0, c14b1, H⟩ := H; replace H := gt_ H; obtain ⟨c15b0, c15b1, H⟩ := H; replace H := gd_ H; obtain ⟨c16b0, H⟩ := H; replace H := sp_ H; obtain ⟨c18, H⟩ | ⟨c18, H⟩ := H
   ·
    have c18b0 := beq_iff_eq.mpr c18; have c18b1 := bne_eq_false_iff_eq.mpr c18; clear c18; have HC19 := af.mk H; clear H; have p17 : (0 ≤ (a1 : Int)) = True := dT_; have q17 : (a1 < (a0.size : Int)) = True := dT_; have hx17 := bS a0 a1
    go_upto_block 3 with (fail)
    go_cut [7] (fun v7 wc => ∃ (kq : Nat) (x7_18 : Int), v7 = .int .i64 x7_18 ∧ af (aG.j3 kq a0 a1 x7_18 = some (r1, r2, r3, r4, r5, r6)) ∧ af (kq ≤ kj5) ∧ af (wc.heap[gb212]? = some (.cells #[.int .i64 0, .string (⟨#[]⟩ : ByteArray), .int .i64 0, .int .i64 0] 50 (0, 0))) ∧ af (Below w.heap.size w wc))
    case first =>
     have H := HC19.1; clear HC19; have H' := af.mk H; clear H
     go_wp2
     go_loopg [7] kj5 (fun kq v7 w' => ∃ (x7_2 : Int), v7 = .int .i64 x7_2 ∧ af (aG.l1 kq a0 a1 x7_2 = some (r1, r2, r3, r4, r5, r6)) ∧ af (kq ≤ kj5) ∧ af (w'.heap[gb212]? = some (.cells #[.int .i64 0, .string (⟨#[]⟩ : ByteArray), .int .i64 0, .int .i64 0] 50 (0, 0))) ∧ af (Below w.heap.size w w'))
     case atStart => exact ⟨(wrap64 (a1 + 1)), sr_, H', ⟨Nat.le_refl _⟩, ⟨bk_ BK212.1⟩, ⟨bl1_ HB.1 GE212.1⟩⟩
     case round =>
      clear H'; (try clear c3); (try clear c3b0); (try clear c3b1); (try clear c13); (try clear c13b0); (try clear c13b1); (try clear c14); (try clear c14b0); (try clear c14b1); (try clear c15); (try clear c15b0); (try clear c15b1); (try clear c16); (try clear c16b0); (try clear p17); (try clear q17); (try clear hx17); (try clear c18); (try clear c18b0); (try clear c18b1); (try clear p17); (try clear q17); obtain ⟨x7_2, rfl, HA, HK2, BK212, HB⟩ := hrel; obtain _ | k2 := gk
      · exact absurd HA.1 (by simp [aG.l1])
      have H := HA.1; clear HA; simp only [aG.l1] at H; replace H := (sd_ H).symm; obtain ⟨c20b0, H⟩ | ⟨c20b0, H⟩ := H
      ·
       (first | rw [c20b0] | (simp only [cz, cK]; rw [c20b0]) | skip)
       have H' := af.mk H; clear H
       go_wp2
       go_meet
       case rel => exact ⟨_, (x7_2), sr_, H', ⟨by have := HJ5.1; have := HK2.1; first | omega | exact Nat.le_refl _⟩, ⟨bk_ BK212.1⟩, ⟨bl1_ HB.1 GE212.1⟩⟩
      (first | rw [c20b0] | (simp only [cz, cK]; rw [c20b0]) | skip)
      replace H := gd_ H; obtain ⟨c21b0, H⟩ := H; replace H := sp_ H; obtain ⟨c23, H⟩ | ⟨c23, H⟩ := H
      ·
       have c23b0 := beq_iff_eq.mpr c23; have c23b1 := bne_eq_false_iff_eq.mpr c23; clear c23; have H' := af.mk H; clear H; have p22 : (0 ≤ (x7_2 : Int)) = True := dT_; have q22 : (x7_2 < (a0.size : Int)) = True := dT_; have hx22 := bS a0 x7_2
       go_wp2
       go_meet
       case rel => exact ⟨_, (x7_2), sr_, H', ⟨by have := HJ5.1; have := HK2.1; first | omega | exact Nat.le_refl _⟩, ⟨bk_ BK212.1⟩, ⟨bl1_ HB.1 GE212.1⟩⟩
      have c23b0 := beq_eq_false_iff_ne.mpr c23; have c23b1 := bne_iff_ne.mpr c23; replace H := sp_ H; obtain ⟨c25, H⟩ | ⟨c25, H⟩ := H
      ·
       have c25b0 := beq_iff_eq.mpr c25; have c25b1 := bne_eq_false_iff_eq.mpr c25; clear c25; have H' := af.mk H; clear H; have p22 : (0 ≤ (x7_2 : Int)) = True := dT_; have q22 : (x7_2 < (a0.size : Int)) = True := dT_; have hx22 := bS a0 x7_2; have p24 : (0 ≤ (x7_2 : Int)) = True := dT_; have q24 : (x7_2 < (a0.size : Int)) = True := dT_; have hx24 := bS a0 x7_2
       go_wp2
       go_meet
       case rel => exact ⟨_, (x7_2), sr_, H', ⟨by have := HJ5.1; have := HK2.1; first | omega | exact Nat.le_refl _⟩, ⟨bk_ BK212.1⟩, ⟨bl1_ HB.1 GE212.1⟩⟩
      have c25b0 := beq_eq_false_iff_ne.mpr c25; have c25b1 := bne_iff_ne.mpr c25; have H' := af.mk H; clear H; have p22 : (0 ≤ (x7_2 : Int)) = True := dT_; have q22 : (x7_2 < (a0.size : Int)) = True := dT_; have hx22 := bS a0 x7_2; have p24 : (0 ≤ (x7_2 : Int)) = True := dT_; have q24 : (x7_2 < (a0.size : Int)) = True := dT_; have hx24 := bS a0 x7_2
      go_wp2
      go_roundg k2
      case measure => have := HJ5.1; have := HK2.1; omega
      case rel => exact ⟨(wrap64 (x7_2 + 1)), sr_, H', ⟨by have := HJ5.1; have := HK2.1; omega⟩, ⟨bk_ BK212.1⟩, ⟨bl1_ HB.1 GE212.1⟩⟩
    case rest =>
     clear HC19; (try clear c3); (try clear c3b0); (try clear c3b1); (try clear c13); (try clear c13b0); (try clear c13b1); (try clear c14); (try clear c14b0); (try clear c14b1); (try clear c15); (try clear c15b0); (try clear c15b1); (try clear c16); (try clear c16b0); (try clear p17); (try clear q17); (try clear hx17); (try clear c18); (try clear c18b0); (try clear c18b1); (try clear p17); (try clear q17); obtain ⟨kq, x7_18, rfl, HA, HJ18, BK212, HB⟩ := hcut
     cases kq with
     | zero => exact absurd HA.1 (by simp [aG.j3])
     | succ kj18 =>
      have H := HA.1; clear HA; simp only [aG.j3] at H; have HC26 := af.mk H; clear H
      go_upto_region 11 with (fail)
      go_cut [70] (fun v70 wc => ∃ (kq : Nat) (x70_25 : Bool), v70 = .bool x70_25 ∧ af (aG.j4 kq a0 a1 x7_18 x70_25 = some (r1, r2, r3, r4, r5, r6)) ∧ af (kq ≤ kj18) ∧ af (wc.heap[gb212]? = some (.cells #[.int .i64 0, .string (⟨#[]⟩ : ByteArray), .int .i64 0, .int .i64 0] 50 (0, 0))) ∧ af (Below w.heap.size w wc))
      case first =>
       have H := HC26.1; clear HC26; replace H := sp_ H; obtain ⟨c27, H⟩ | ⟨c27, H⟩ := H
       ·
        have c27b0 := beq_iff_eq.mpr c27; have c27b1 := bne_eq_false_iff_eq.mpr c27; clear c27
        (first | rw [c27b0] | (simp only [cz, cK]; rw [c27b0]) | skip)
        have H' := af.mk H; clear H
        go_wp2
        go_meet
        case rel => exact ⟨_, (true), sr_, H', ⟨by have := HJ5.1; have := HJ18.1; first | omega | exact Nat.le_refl _⟩, ⟨bk_ BK212.1⟩, ⟨bl1_ HB.1 GE212.1⟩⟩
       have c27b0 := beq_eq_false_iff_ne.mpr c27; have c27b1 := bne_iff_ne.mpr c27
       (first | rw [c27b0] | (simp only [cz, cK]; rw [c27b0]) | skip)
       replace H := gd_ H; obtain ⟨c28b0, H⟩ := H; replace H := gd_ H; obtain ⟨c29b0, H⟩ := H; have H' := af.mk H; clear H; have p30 : (0 ≤ (x7_18 : Int)) = True := dT_; have q30 : (x7_18 < (a0.size : Int)) = True := dT_; have hx30 := bS a0 x7_18
       go_wp2
       go_meet
       case rel => exact ⟨_, (((bt a0 x7_18) != 34)), sr_, H', ⟨by have := HJ5.1; have := HJ18.1; first | omega | exact Nat.le_refl _⟩, ⟨bk_ BK212.1⟩, ⟨bl1_ HB.1 GE212.1⟩⟩
      case rest =>
       clear HC26; (try clear c3); (try clear c3b0); (try clear c3b1); (try clear c13); (try clear c13b0); (try clear c13b1); (try clear c14); (try clear c14b0); (try clear c14b1); (try clear c15); (try clear c15b0); (try clear c15b1); (try clear c16); (try clear c16b0); (try clear p17); (try clear q17); (try clear hx17); (try clear c18); (try clear c18b0); (try clear c18b1); (try clear p17); (try clear q17); obtain ⟨kq, x70_25, rfl, HA, HJ25, BK212, HB⟩ := hcut
       cases kq with
       | zero => exact absurd HA.1 (by simp [aG.j4])
       | succ kj25 =>
        have H := HA.1; clear HA; simp only [aG.j4] at H; replace H := sb_ H; obtain ⟨rfl, H⟩ | ⟨rfl, H⟩ := H
        ·
         simp only [Option.some.injEq, Prod.mk.injEq] at H; obtain ⟨rfl, rfl, rfl, rfl, rfl, rfl⟩ := H; obtain ⟨hcz32_0, hcz32_1, hcz32_2, hcz32_3, hfz32_0, hfz32_1, hfz32_2, hfz32_3⟩ := cq4_ BK212.1
         go_wp2
         refine bodyPost_ret (dz rfl _ _ gb212 50 #[.int .i64 0, .string (⟨#[]⟩ : ByteArray), .int .i64 0, .int .i64 0] (0, 0) _ rfl (by exact dK (bk_ BK212.1)) Tryz.underlying50 rfl (by kernel_rfl)) rfl ?_; exact ⟨er_, bl1_ HB.1 GE212.1⟩
        obtain ⟨ji33, hji33⟩ : ∃ j_ : Int, (wrap64 (a1 + 1)) = j_ := ⟨_, rfl⟩; replace H : (if 0 ≤ (ji33) then (if (ji33) ≤ x7_18 then (if x7_18 ≤ (a0.size : Int) then ((aX.f kj25 (a0.extract ((ji33) : Int).toNat (x7_18 : Int).toNat)).bind fun t214 => (if t214 = 0 then (some (3, a0.extract ((ji33) : Int).toNat (x7_18 : Int).toNat, 0, a1, wrap64 (x7_18 + 1), 0)) else (some (0, (⟨#[]⟩ : ByteArray), 0, 0, 0, t214)))) else (none)) else (none)) else (none)) = some (r1, r2, r3, r4, r5, r6) := by first | (rw [hji33] at H; exact H) | (simp only [hji33] at H ⊢; exact H)
        have hji33w : (IntKind.i64.wrap (a1 + 1)) = ji33 := (cz _).trans hji33; replace H := gt_ H; obtain ⟨c34b0, c34b1, H⟩ := H; replace H := gt_ H; obtain ⟨c35b0, c35b1, H⟩ := H; replace H := gt_ H; obtain ⟨c36b0, c36b1, H⟩ := H; replace H := bn_ H; obtain ⟨t214, A37, H⟩ := H; (try dsimp only at H); replace H := (sp_ H).symm; obtain ⟨c38, H⟩ | ⟨c38, H⟩ := H
        ·
         have c38b0 := beq_eq_false_iff_ne.mpr c38; have c38b1 := bne_iff_ne.mpr c38; simp only [Option.some.injEq, Prod.mk.injEq] at H; obtain ⟨rfl, rfl, rfl, rfl, rfl, rfl⟩ := H
         go_wp2_with (first | ((with_reducible refine aj (f := 81) rfl ?_); refine dW (some 77) rfl rfl Tryz.func81 (by kernel_rfl) rfl #[.string (a0.extract ((ji33) : Int).toNat (x7_18 : Int).toNat)] rfl (by (try simp only [List.map_toArray, List.map_cons, List.map_nil]); first | done | (simp only [hji33]; rfl) | rfl | (simp only [List.length_drop, List.length_take]; rfl)) ?_; (with_reducible refine (aX.calls kj25 (a0.extract ((ji33) : Int).toNat (x7_18 : Int).toNat) t214 _ A37.1).mono ?_); rintro e w' ⟨rfl, ⟨nd, rfl⟩⟩; refine ⟨_, rfl, ?_⟩; (try (rw [dh wc]; generalize hq_ : World.drewN wc _ = wc; have n0_ := af.mk (bw_ hq_.symm (bk_ BK212.1)); have n1_ := af.mk (bW_ hq_.symm (bl1_ HB.1 GE212.1)); clear BK212 HB hq_; have BK212 := n0_; have HB := n1_; clear n0_ n1_)); obtain ⟨hcz43_0, hcz43_1, hcz43_2, hcz43_3, hfz43_0, hfz43_1, hfz43_2, hfz43_3⟩ := cq4_ BK212.1))
         refine bodyPost_ret (dz rfl _ _ gb212 50 #[.int .i64 0, .string (⟨#[]⟩ : ByteArray), .int .i64 0, .int .i64 0] (0, 0) _ rfl (by exact dK (bk_ BK212.1)) Tryz.underlying50 rfl (by kernel_rfl)) rfl ?_; exact ⟨by first | rfl | (simp [eu, ek] <;> rfl) | (simp only [← hji33]; first | rfl | (simp [eu, ek] <;> rfl)) | (simp [*, eu, ek] <;> rfl), bl1_ HB.1 GE212.1⟩
        have c38b0 := beq_iff_eq.mpr c38; have c38b1 := bne_eq_false_iff_eq.mpr c38; clear c38; have c39b0 := eq_true (dt_ : 0 ≤ (ji33)); have c40b0 := eq_true (dt_ : (ji33) ≤ x7_18); have c41b0 := eq_true (dt_ : x7_18 ≤ (a0.size : Int)); simp only [Option.some.injEq, Prod.mk.injEq] at H; obtain ⟨rfl, rfl, rfl, rfl, rfl, rfl⟩ := H
        go_wp2_with (first | ((with_reducible refine aj (f := 81) rfl ?_); refine dW (some 77) rfl rfl Tryz.func81 (by kernel_rfl) rfl #[.string (a0.extract ((ji33) : Int).toNat (x7_18 : Int).toNat)] rfl (by (try simp only [List.map_toArray, List.map_cons, List.map_nil]); first | done | (simp only [hji33]; rfl) | rfl | (simp only [List.length_drop, List.length_take]; rfl)) ?_; (with_reducible refine (aX.calls kj25 (a0.extract ((ji33) : Int).toNat (x7_18 : Int).toNat) t214 _ A37.1).mono ?_); rintro e w' ⟨rfl, ⟨nd, rfl⟩⟩; refine ⟨_, rfl, ?_⟩; (try (rw [dh wc]; generalize hq_ : World.drewN wc _ = wc; have n0_ := af.mk (bw_ hq_.symm (bk_ BK212.1)); have n1_ := af.mk (bW_ hq_.symm (bl1_ HB.1 GE212.1)); clear BK212 HB hq_; have BK212 := n0_; have HB := n1_; clear n0_ n1_)); obtain ⟨hcz42_0, hcz42_1, hcz42_2, hcz42_3, hfz42_0, hfz42_1, hfz42_2, hfz42_3⟩ := cq4_ BK212.1))
        refine bodyPost_ret (dz rfl _ _ gb212 50 #[.int .i64 3, .string (a0.extract ((ji33) : Int).toNat (x7_18 : Int).toNat), .int .i64 0, .int .i64 a1] (0, 0) _ rfl (by exact dK (bk_ BK212.1)) Tryz.underlying50 rfl (by kernel_rfl)) rfl ?_; exact ⟨by first | rfl | (simp [eu, ek] <;> rfl) | (simp only [← hji33]; first | rfl | (simp [eu, ek] <;> rfl)) | (simp [*, eu, ek] <;> rfl), bl1_ HB.1 GE212.1⟩
   have c18b0 := beq_eq_false_iff_ne.mpr c18; have c18b1 := bne_iff_ne.mpr c18; replace H := bn_ H; obtain ⟨t215, A45, H⟩ := H; (try dsimp only at H); replace H := sb_ H; obtain ⟨rfl, H⟩ | ⟨rfl, H⟩ := H
   ·
    have c47b0 := eq_true (dt_ : 0 ≤ a1); replace H := gp_ H; obtain ⟨c48, H⟩ := H; have c48b0 := eq_true c48; have c48b1 := decide_eq_true c48; replace H := gp_ H; obtain ⟨c49, H⟩ := H; have c49b0 := eq_true c49; have c49b1 := decide_eq_true c49; simp only [Option.some.injEq, Prod.mk.injEq] at H; obtain ⟨rfl, rfl, rfl, rfl, rfl, rfl⟩ := H; have p17 : (0 ≤ (a1 : Int)) = True := dT_; have q17 : (a1 < (a0.size : Int)) = True := dT_; have hx17 := bS a0 a1; have p44 : (0 ≤ (a1 : Int)) = True := dT_; have q44 : (a1 < (a0.size : Int)) = True := dT_; have hx44 := bS a0 a1
    go_wp2_with (first | ((with_reducible refine aj (f := 82) rfl ?_); refine gk_ (some 95) Tryz.func82 (bF.calls kj5 (bt a0 a1) true _ A45.1) ?_; rintro e w' ⟨rfl, ⟨nd, rfl⟩⟩; refine ⟨_, rfl, ?_⟩; (try (rw [dh wc]; generalize hq_ : World.drewN wc _ = wc; have n0_ := af.mk (bw_ hq_.symm (bk_ BK212.1)); have n1_ := af.mk (bW_ hq_.symm (bl1_ HB.1 GE212.1)); clear BK212 HB hq_; have BK212 := n0_; have HB := n1_; clear n0_ n1_)); obtain ⟨hcz50_0, hcz50_1, hcz50_2, hcz50_3, hfz50_0, hfz50_1, hfz50_2, hfz50_3⟩ := cq4_ BK212.1))
    refine bodyPost_ret (dz rfl _ _ gb212 50 #[.int .i64 4, .string (a0.extract (a1 : Int).toNat ((wrap64 (a1 + 1)) : Int).toNat), .int .i64 0, .int .i64 a1] (0, 0) _ rfl (by exact dK (bk_ BK212.1)) Tryz.underlying50 rfl (by kernel_rfl)) rfl ?_; exact ⟨er_, bl1_ HB.1 GE212.1⟩
   replace H := sp_ H; obtain ⟨c51, H⟩ | ⟨c51, H⟩ := H
   ·
    have c51b0 := beq_iff_eq.mpr c51; have c51b1 := bne_eq_false_iff_eq.mpr c51; (try (have c51e0 := c51b0; simp only [ByteArray.size_extract, Nat.min_self, Nat.sub_zero] at c51e0)); (try (have c51e1 := c51b1; simp only [ByteArray.size_extract, Nat.min_self, Nat.sub_zero] at c51e1)); clear c51; simp only [Option.some.injEq, Prod.mk.injEq] at H; obtain ⟨rfl, rfl, rfl, rfl, rfl, rfl⟩ := H; have p17 : (0 ≤ (a1 : Int)) = True := dT_; have q17 : (a1 < (a0.size : Int)) = True := dT_; have hx17 := bS a0 a1; have p44 : (0 ≤ (a1 : Int)) = True := dT_; have q44 : (a1 < (a0.size : Int)) = True := dT_; have hx44 := bS a0 a1
    go_wp2_with (first | ((with_reducible refine aj (f := 82) rfl ?_); refine gk_ (some 95) Tryz.func82 (bF.calls kj5 (bt a0 a1) false _ A45.1) ?_; rintro e w' ⟨rfl, ⟨nd, rfl⟩⟩; refine ⟨_, rfl, ?_⟩; (try (rw [dh wc]; generalize hq_ : World.drewN wc _ = wc; have n0_ := af.mk (bw_ hq_.symm (bk_ BK212.1)); have n1_ := af.mk (bW_ hq_.symm (bl1_ HB.1 GE212.1)); clear BK212 HB hq_; have BK212 := n0_; have HB := n1_; clear n0_ n1_)); obtain ⟨hcz52_0, hcz52_1, hcz52_2, hcz52_3, hfz52_0, hfz52_1, hfz52_2, hfz52_3⟩ := cq4_ BK212.1))
    refine bodyPost_ret (dz rfl _ _ gb212 50 #[.int .i64 0, .string (⟨#[]⟩ : ByteArray), .int .i64 0, .int .i64 0] (0, 0) _ rfl (by exact dK (bk_ BK212.1)) Tryz.underlying50 rfl (by kernel_rfl)) rfl ?_; exact ⟨er_, bl1_ HB.1 GE212.1⟩
   have c51b0 := beq_eq_false_iff_ne.mpr c51; have c51b1 := bne_iff_ne.mpr c51; (try (have c51e0 := c51b0; simp only [ByteArray.size_extract, Nat.min_self, Nat.sub_zero] at c51e0)); (try (have c51e1 := c51b1; simp only [ByteArray.size_extract, Nat.min_self, Nat.sub_zero] at c51e1)); replace H := bn_ H; obtain ⟨t216, A53, H⟩ := H; (try dsimp only at H); replace H := (sb_ H).symm; obtain ⟨rfl, H⟩ | ⟨rfl, H⟩ := H
   ·
    replace H := bn_ H; obtain ⟨⟨t218, t219⟩, A61, H⟩ := H; (try dsimp only at H); replace H := (sp_ H).symm; obtain ⟨c62, H⟩ | ⟨c62, H⟩ := H
    ·
     have c62b0 := beq_eq_false_iff_ne.mpr c62; have c62b1 := bne_iff_ne.mpr c62; simp only [Option.some.injEq, Prod.mk.injEq] at H; obtain ⟨rfl, rfl, rfl, rfl, rfl, rfl⟩ := H; have p17 : (0 ≤ (a1 : Int)) = True := dT_; have q17 : (a1 < (a0.size : Int)) = True := dT_; have hx17 := bS a0 a1; have p44 : (0 ≤ (a1 : Int)) = True := dT_; have q44 : (a1 < (a0.size : Int)) = True := dT_; have hx44 := bS a0 a1
     go_wp2_with (first | ((with_reducible refine aj (f := 82) rfl ?_); refine gk_ (some 95) Tryz.func82 (bF.calls kj5 (bt a0 a1) false _ A45.1) ?_; rintro e w' ⟨rfl, ⟨nd, rfl⟩⟩; refine ⟨_, rfl, ?_⟩; (try (rw [dh wc]; generalize hq_ : World.drewN wc _ = wc; have n0_ := af.mk (bw_ hq_.symm (bk_ BK212.1)); have n1_ := af.mk (bW_ hq_.symm (bl1_ HB.1 GE212.1)); clear BK212 HB hq_; have BK212 := n0_; have HB := n1_; clear n0_ n1_))) | ((with_reducible refine aj (f := 83) rfl ?_); refine gk_ (some 111) Tryz.func83 (bA.calls kj5 (a0.extract (a1 : Int).toNat (x7_5 : Int).toNat) true false false _ A53.1) ?_; rintro e w' ⟨rfl, ⟨nd, rfl⟩⟩; refine ⟨_, rfl, ?_⟩; (try (rw [dh wc]; generalize hq_ : World.drewN wc _ = wc; have n0_ := af.mk (bw_ hq_.symm (bk_ BK212.1)); have n1_ := af.mk (bW_ hq_.symm (bl1_ HB.1 GE212.1)); clear BK212 HB hq_; have BK212 := n0_; have HB := n1_; clear n0_ n1_))) | ((with_reducible refine aj (f := 84) rfl ?_); refine gk_ (some 125) Tryz.func84 (ay.calls kj5 (a0.extract (a1 : Int).toNat (x7_5 : Int).toNat) t218 t219 _ A61.1) ?_; rintro e w' ⟨rfl, ⟨nd, rfl⟩⟩; refine ⟨_, rfl, ?_⟩; (try (rw [dh wc]; generalize hq_ : World.drewN wc _ = wc; have n0_ := af.mk (bw_ hq_.symm (bk_ BK212.1)); have n1_ := af.mk (bW_ hq_.symm (bl1_ HB.1 GE212.1)); clear BK212 HB hq_; have BK212 := n0_; have HB := n1_; clear n0_ n1_)); obtain ⟨hcz64_0, hcz64_1, hcz64_2, hcz64_3, hfz64_0, hfz64_1, hfz64_2, hfz64_3⟩ := cq4_ BK212.1))
     refine bodyPost_ret (dz rfl _ _ gb212 50 #[.int .i64 0, .string (⟨#[]⟩ : ByteArray), .int .i64 0, .int .i64 0] (0, 0) _ rfl (by exact dK (bk_ BK212.1)) Tryz.underlying50 rfl (by kernel_rfl)) rfl ?_; exact ⟨er_, bl1_ HB.1 GE212.1⟩
    have c62b0 := beq_iff_eq.mpr c62; have c62b1 := bne_eq_false_iff_eq.mpr c62; clear c62; simp only [Option.some.injEq, Prod.mk.injEq] at H; obtain ⟨rfl, rfl, rfl, rfl, rfl, rfl⟩ := H; have p17 : (0 ≤ (a1 : Int)) = True := dT_; have q17 : (a1 < (a0.size : Int)) = True := dT_; have hx17 := bS a0 a1; have p44 : (0 ≤ (a1 : Int)) = True := dT_; have q44 : (a1 < (a0.size : Int)) = True := dT_; have hx44 := bS a0 a1
    go_wp2_with (first | ((with_reducible refine aj (f := 82) rfl ?_); refine gk_ (some 95) Tryz.func82 (bF.calls kj5 (bt a0 a1) false _ A45.1) ?_; rintro e w' ⟨rfl, ⟨nd, rfl⟩⟩; refine ⟨_, rfl, ?_⟩; (try (rw [dh wc]; generalize hq_ : World.drewN wc _ = wc; have n0_ := af.mk (bw_ hq_.symm (bk_ BK212.1)); have n1_ := af.mk (bW_ hq_.symm (bl1_ HB.1 GE212.1)); clear BK212 HB hq_; have BK212 := n0_; have HB := n1_; clear n0_ n1_))) | ((with_reducible refine aj (f := 83) rfl ?_); refine gk_ (some 111) Tryz.func83 (bA.calls kj5 (a0.extract (a1 : Int).toNat (x7_5 : Int).toNat) true false false _ A53.1) ?_; rintro e w' ⟨rfl, ⟨nd, rfl⟩⟩; refine ⟨_, rfl, ?_⟩; (try (rw [dh wc]; generalize hq_ : World.drewN wc _ = wc; have n0_ := af.mk (bw_ hq_.symm (bk_ BK212.1)); have n1_ := af.mk (bW_ hq_.symm (bl1_ HB.1 GE212.1)); clear BK212 HB hq_; have BK212 := n0_; have HB := n1_; clear n0_ n1_))) | ((with_reducible refine aj (f := 84) rfl ?_); refine gk_ (some 125) Tryz.func84 (ay.calls kj5 (a0.extract (a1 : Int).toNat (x7_5 : Int).toNat) t218 t219 _ A61.1) ?_; rintro e w' ⟨rfl, ⟨nd, rfl⟩⟩; refine ⟨_, rfl, ?_⟩; (try (rw [dh wc]; generalize hq_ : World.drewN wc _ = wc; have n0_ := af.mk (bw_ hq_.symm (bk_ BK212.1)); have n1_ := af.mk (bW_ hq_.symm (bl1_ HB.1 GE212.1)); clear BK212 HB hq_; have BK212 := n0_; have HB := n1_; clear n0_ n1_)); obtain ⟨hcz63_0, hcz63_1, hcz63_2, hcz63_3, hfz63_0, hfz63_1, hfz63_2, hfz63_3⟩ := cq4_ BK212.1))
    refine bodyPost_ret (dz rfl _ _ gb212 50 #[.int .i64 2, .string (⟨#[]⟩ : ByteArray), .int .i64 t218, .int .i64 a1] (0, 0) _ rfl (by exact dK (bk_ BK212.1)) Tryz.underlying50 rfl (by kernel_rfl)) rfl ?_; exact ⟨er_, bl1_ HB.1 GE212.1⟩
   replace H := bn_ H; obtain ⟨t217, A55, H⟩ := H; (try dsimp only at H); replace H := sb_ H; obtain ⟨rfl, H⟩ | ⟨rfl, H⟩ := H
   ·
    simp only [Option.some.injEq, Prod.mk.injEq] at H; obtain ⟨rfl, rfl, rfl, rfl, rfl, rfl⟩ := H; have p17 : (0 ≤ (a1 : Int)) = True := dT_; have q17 : (a1 < (a0.size : Int)) = True := dT_; have hx17 := bS a0 a1; have p44 : (0 ≤ (a1 : Int)) = True := dT_; have q44 : (a1 < (a0.size : Int)) = True := dT_; have hx44 := bS a0 a1
    go_wp2_with (first | ((with_reducible refine aj (f := 82) rfl ?_); refine gk_ (some 95) Tryz.func82 (bF.calls kj5 (bt a0 a1) false _ A45.1) ?_; rintro e w' ⟨rfl, ⟨nd, rfl⟩⟩; refine ⟨_, rfl, ?_⟩; (try (rw [dh wc]; generalize hq_ : World.drewN wc _ = wc; have n0_ := af.mk (bw_ hq_.symm (bk_ BK212.1)); have n1_ := af.mk (bW_ hq_.symm (bl1_ HB.1 GE212.1)); clear BK212 HB hq_; have BK212 := n0_; have HB := n1_; clear n0_ n1_))) | ((with_reducible refine aj (f := 83) rfl ?_); refine gk_ (some 111) Tryz.func83 (bA.calls kj5 (a0.extract (a1 : Int).toNat (x7_5 : Int).toNat) true false true _ A53.1) ?_; rintro e w' ⟨rfl, ⟨nd, rfl⟩⟩; refine ⟨_, rfl, ?_⟩; (try (rw [dh wc]; generalize hq_ : World.drewN wc _ = wc; have n0_ := af.mk (bw_ hq_.symm (bk_ BK212.1)); have n1_ := af.mk (bW_ hq_.symm (bl1_ HB.1 GE212.1)); clear BK212 HB hq_; have BK212 := n0_; have HB := n1_; clear n0_ n1_))) | ((with_reducible refine aj (f := 83) rfl ?_); refine gk_ (some 113) Tryz.func83 (bA.calls kj5 (a0.extract (a1 : Int).toNat (x7_5 : Int).toNat) false true true _ A55.1) ?_; rintro e w' ⟨rfl, ⟨nd, rfl⟩⟩; refine ⟨_, rfl, ?_⟩; (try (rw [dh wc]; generalize hq_ : World.drewN wc _ = wc; have n0_ := af.mk (bw_ hq_.symm (bk_ BK212.1)); have n1_ := af.mk (bW_ hq_.symm (bl1_ HB.1 GE212.1)); clear BK212 HB hq_; have BK212 := n0_; have HB := n1_; clear n0_ n1_)); obtain ⟨hcz57_0, hcz57_1, hcz57_2, hcz57_3, hfz57_0, hfz57_1, hfz57_2, hfz57_3⟩ := cq4_ BK212.1))
    refine bodyPost_ret (dz rfl _ _ gb212 50 #[.int .i64 0, .string (⟨#[]⟩ : ByteArray), .int .i64 0, .int .i64 0] (0, 0) _ rfl (by exact dK (bk_ BK212.1)) Tryz.underlying50 rfl (by kernel_rfl)) rfl ?_; exact ⟨er_, bl1_ HB.1 GE212.1⟩
   replace H := sp_ H; obtain ⟨c58, H⟩ | ⟨c58, H⟩ := H
   ·
    have c58b0 := decide_eq_true c58; have c58b1 : decide (32 < (a0.extract (a1 : Int).toNat (x7_5 : Int).toNat).size) = true := decide_eq_true (by omega); (try (have c58e0 := c58b0; simp only [ByteArray.size_extract, Nat.min_self, Nat.sub_zero] at c58e0)); (try (have c58e1 := c58b1; simp only [ByteArray.size_extract, Nat.min_self, Nat.sub_zero] at c58e1)); (try (have c58g0 := c58b0; simp only [ByteArray.size_extract, Nat.sub_zero, Nat.min_eq_left (show (x7_5 : Int).toNat ≤ a0.size from by have h_ : (x7_5 : Int) ≤ (a0.size : Int) := dt_; omega)] at c58g0)); (try (have c58g1 := c58b1; simp only [ByteArray.size_extract, Nat.sub_zero, Nat.min_eq_left (show (x7_5 : Int).toNat ≤ a0.size from by have h_ : (x7_5 : Int) ≤ (a0.size : Int) := dt_; omega)] at c58g1)); clear c58; simp only [Option.some.injEq, Prod.mk.injEq] at H; obtain ⟨rfl, rfl, rfl, rfl, rfl, rfl⟩ := H; have p17 : (0 ≤ (a1 : Int)) = True := dT_; have q17 : (a1 < (a0.size : Int)) = True := dT_; have hx17 := bS a0 a1; have p44 : (0 ≤ (a1 : Int)) = True := dT_; have q44 : (a1 < (a0.size : Int)) = True := dT_; have hx44 := bS a0 a1
    go_wp2_with (first | ((with_reducible refine aj (f := 82) rfl ?_); refine gk_ (some 95) Tryz.func82 (bF.calls kj5 (bt a0 a1) false _ A45.1) ?_; rintro e w' ⟨rfl, ⟨nd, rfl⟩⟩; refine ⟨_, rfl, ?_⟩; (try (rw [dh wc]; generalize hq_ : World.drewN wc _ = wc; have n0_ := af.mk (bw_ hq_.symm (bk_ BK212.1)); have n1_ := af.mk (bW_ hq_.symm (bl1_ HB.1 GE212.1)); clear BK212 HB hq_; have BK212 := n0_; have HB := n1_; clear n0_ n1_))) | ((with_reducible refine aj (f := 83) rfl ?_); refine gk_ (some 111) Tryz.func83 (bA.calls kj5 (a0.extract (a1 : Int).toNat (x7_5 : Int).toNat) true false true _ A53.1) ?_; rintro e w' ⟨rfl, ⟨nd, rfl⟩⟩; refine ⟨_, rfl, ?_⟩; (try (rw [dh wc]; generalize hq_ : World.drewN wc _ = wc; have n0_ := af.mk (bw_ hq_.symm (bk_ BK212.1)); have n1_ := af.mk (bW_ hq_.symm (bl1_ HB.1 GE212.1)); clear BK212 HB hq_; have BK212 := n0_; have HB := n1_; clear n0_ n1_))) | ((with_reducible refine aj (f := 83) rfl ?_); refine gk_ (some 113) Tryz.func83 (bA.calls kj5 (a0.extract (a1 : Int).toNat (x7_5 : Int).toNat) false true false _ A55.1) ?_; rintro e w' ⟨rfl, ⟨nd, rfl⟩⟩; refine ⟨_, rfl, ?_⟩; (try (rw [dh wc]; generalize hq_ : World.drewN wc _ = wc; have n0_ := af.mk (bw_ hq_.symm (bk_ BK212.1)); have n1_ := af.mk (bW_ hq_.symm (bl1_ HB.1 GE212.1)); clear BK212 HB hq_; have BK212 := n0_; have HB := n1_; clear n0_ n1_)); obtain ⟨hcz59_0, hcz59_1, hcz59_2, hcz59_3, hfz59_0, hfz59_1, hfz59_2, hfz59_3⟩ := cq4_ BK212.1))
    refine bodyPost_ret (dz rfl _ _ gb212 50 #[.int .i64 0, .string (⟨#[]⟩ : ByteArray), .int .i64 0, .int .i64 0] (0, 0) _ rfl (by exact dK (bk_ BK212.1)) Tryz.underlying50 rfl (by kernel_rfl)) rfl ?_; exact ⟨er_, bl1_ HB.1 GE212.1⟩
   have c58b0 := decide_eq_false c58; have c58b1 : decide (32 < (a0.extract (a1 : Int).toNat (x7_5 : Int).toNat).size) = false := decide_eq_false (by omega); (try (have c58e0 := c58b0; simp only [ByteArray.size_extract, Nat.min_self, Nat.sub_zero] at c58e0)); (try (have c58e1 := c58b1; simp only [ByteArray.size_extract, Nat.min_self, Nat.sub_zero] at c58e1)); (try (have c58g0 := c58b0; simp only [ByteArray.size_extract, Nat.sub_zero, Nat.min_eq_left (show (x7_5 : Int).toNat ≤ a0.size from by have h_ : (x7_5 : Int) ≤ (a0.size : Int) := dt_; omega)] at c58g0)); (try (have c58g1 := c58b1; simp only [ByteArray.size_extract, Nat.sub_zero, Nat.min_eq_left (show (x7_5 : Int).toNat ≤ a0.size from by have h_ : (x7_5 : Int) ≤ (a0.size : Int) := dt_; omega)] at c58g1)); clear c58; simp only [Option.some.injEq, Prod.mk.injEq] at H; obtain ⟨rfl, rfl, rfl, rfl, rfl, rfl⟩ := H; have p17 : (0 ≤ (a1 : Int)) = True := dT_; have q17 : (a1 < (a0.size : Int)) = True := dT_; have hx17 := bS a0 a1; have p44 : (0 ≤ (a1 : Int)) = True := dT_; have q44 : (a1 < (a0.size : Int)) = True := dT_; have hx44 := bS a0 a1
   go_wp2_with (first | ((with_reducible refine aj (f := 82) rfl ?_); refine gk_ (some 95) Tryz.func82 (bF.calls kj5 (bt a0 a1) false _ A45.1) ?_; rintro e w' ⟨rfl, ⟨nd, rfl⟩⟩; refine ⟨_, rfl, ?_⟩; (try (rw [dh wc]; generalize hq_ : World.drewN wc _ = wc; have n0_ := af.mk (bw_ hq_.symm (bk_ BK212.1)); have n1_ := af.mk (bW_ hq_.symm (bl1_ HB.1 GE212.1)); clear BK212 HB hq_; have BK212 := n0_; have HB := n1_; clear n0_ n1_))) | ((with_reducible refine aj (f := 83) rfl ?_); refine gk_ (some 111) Tryz.func83 (bA.calls kj5 (a0.extract (a1 : Int).toNat (x7_5 : Int).toNat) true false true _ A53.1) ?_; rintro e w' ⟨rfl, ⟨nd, rfl⟩⟩; refine ⟨_, rfl, ?_⟩; (try (rw [dh wc]; generalize hq_ : World.drewN wc _ = wc; have n0_ := af.mk (bw_ hq_.symm (bk_ BK212.1)); have n1_ := af.mk (bW_ hq_.symm (bl1_ HB.1 GE212.1)); clear BK212 HB hq_; have BK212 := n0_; have HB := n1_; clear n0_ n1_))) | ((with_reducible refine aj (f := 83) rfl ?_); refine gk_ (some 113) Tryz.func83 (bA.calls kj5 (a0.extract (a1 : Int).toNat (x7_5 : Int).toNat) false true false _ A55.1) ?_; rintro e w' ⟨rfl, ⟨nd, rfl⟩⟩; refine ⟨_, rfl, ?_⟩; (try (rw [dh wc]; generalize hq_ : World.drewN wc _ = wc; have n0_ := af.mk (bw_ hq_.symm (bk_ BK212.1)); have n1_ := af.mk (bW_ hq_.symm (bl1_ HB.1 GE212.1)); clear BK212 HB hq_; have BK212 := n0_; have HB := n1_; clear n0_ n1_)); obtain ⟨hcz60_0, hcz60_1, hcz60_2, hcz60_3, hfz60_0, hfz60_1, hfz60_2, hfz60_3⟩ := cq4_ BK212.1))
   refine bodyPost_ret (dz rfl _ _ gb212 50 #[.int .i64 1, .string (a0.extract (a1 : Int).toNat (x7_5 : Int).toNat), .int .i64 0, .int .i64 a1] (0, 0) _ rfl (by exact dK (bk_ BK212.1)) Tryz.underlying50 rfl (by kernel_rfl)) rfl ?_; exact ⟨er_, bl1_ HB.1 GE212.1⟩
def bM.j0 : Nat → ByteArray → Int → Bool → Option (Int × ByteArray × Int × Int × Int × Int × Int)
 | 0, _, _, _ => none
 | k + 1, x0, x1, x23 => if x23 = true then (some (0, (⟨#[]⟩ : ByteArray), 0, 0, 0, 1, 0)) else ((aM.f k x0 x1).bind fun t222 => ((aG.f k x0 t222).bind fun bt223 => (if bt223.2.2.2.2.2 = 0 then (some (bt223.1, bt223.2.1, bt223.2.2.1, bt223.2.2.2.1, bt223.2.2.2.2.1, 0, 0)) else (some (0, (⟨#[]⟩ : ByteArray), 0, 0, 0, bt223.2.2.2.2.2, t222)))))
def bM.f (k : Nat) (a0 : ByteArray) (a1 : Int) : Option (Int × ByteArray × Int × Int × Int × Int × Int) := if (a0.size : Int) > 65536 then (some (0, (⟨#[]⟩ : ByteArray), 0, 0, 0, 6, 65536)) else (if a1 < 0 then (bM.j0 k a0 a1 true) else (bM.j0 k a0 a1 (decide (a1 > (a0.size : Int)))))
theorem bM.calls (k : Nat) (a0 : ByteArray) (a1 : Int) (r1 : Int) (r2 : ByteArray) (r3 : Int) (r4 : Int) (r5 : Int) (r6 : Int) (r7 : Int) (w : World) (h : bM.f k a0 a1 = some (r1, r2, r3, r4, r5, r6, r7)) :
  Calls Tryz.prog 49 #[.string a0, .int .i64 a1] w fun e w' => e = .returned (.tuple #[.agg #[.int .i64 r1, .string r2, .int .i64 r3, .int .i64 r4], .int .i64 r5, .agg #[.int .i64 r6, .int .i64 r7]]) ∧ Below w.heap.size w w' := by
 have hu46 := Tryz.underlying50; have hu26 := Tryz.underlying40; have HB := af.mk (Below.refl w.heap.size w); have H : (if (a0.size : Int) > 65536 then (some (0, (⟨#[]⟩ : ByteArray), 0, 0, 0, 6, 65536)) else (if a1 < 0 then (bM.j0 k a0 a1 true) else (bM.j0 k a0 a1 (decide (a1 > (a0.size : Int)))))) = some (r1, r2, r3, r4, r5, r6, r7) := h; clear h; replace H := sp_ H; obtain ⟨c3, H⟩ | ⟨c3, H⟩ := H
 ·
  have c3b0 := decide_eq_true c3; have c3b1 : decide (65536 < a0.size) = true := decide_eq_true (by omega); clear c3; simp only [Option.some.injEq, Prod.mk.injEq] at H; obtain ⟨rfl, rfl, rfl, rfl, rfl, rfl, rfl⟩ := H
  go_enter Tryz.func49, Tryz.ntmps49
  go_wp2_with (first | ((with_reducible refine aA (N := 4) rfl ?_); (try (refine bE (by rfl) ?_; dsimp only)); refine bx_ (N := 4) (cs := #[.int .i64 0, .string (⟨#[]⟩ : ByteArray), .int .i64 0, .int .i64 0]) (t := 50) ?_; intro gb220 hg w4 hbox hb; refine df (ah (bl_ HB.1) hb) (hbox) (bz_ (w := w) hg (bl_ HB.1)) (bz_ (w := w) hg (bl_ HB.1)) ?_; clear HB; intro HB BK220 GW220 GE220; clear hb hbox hg) | ((with_reducible refine aA (N := 6) rfl ?_); (try (refine bE (by rfl) ?_; dsimp only)); refine bx_ (N := 6) (cs := #[.int .i64 0, .int .i64 0]) (t := 40) ?_; intro gb221 hg w5 hbox hb; refine gH (bb_ BK220.1 hb) (ah (bl1_ HB.1 GE220.1) hb) (hbox) (bz_ (w := w) hg (bl1_ HB.1 GE220.1)) (bz_ (w := w) hg (bl1_ HB.1 GE220.1)) (nl_ hg BK220.1) (ng_ hg BK220.1) ?_; clear BK220 HB; intro BK220 HB BK221 GW221 GE221 NB220_221 NB221_220; clear hb hbox hg; have hnb6 := NB220_221.1; have hnc6 := NB221_220.1; obtain ⟨hcz7_0, hcz7_1, hcz7_2, hcz7_3, hfz7_0, hfz7_1, hfz7_2, hfz7_3⟩ := cq4_ BK220.1; obtain ⟨hcz8_0, hcz8_1, hfz8_0, hfz8_1⟩ := cq2_ BK221.1))
  refine bodyPost_ret (dO (rs := [.cell 4 50, .tmp 5, .cell 6 40]) rfl (by simp) (.cell gb220 50 #[.int .i64 0, .string (⟨#[]⟩ : ByteArray), .int .i64 0, .int .i64 0] (0, 0) _ rfl (by exact dC (dK (bk_ BK220.1)) NB220_221.1) Tryz.underlying50 rfl (by kernel_rfl) (.tmp (.cell gb221 40 #[.int .i64 6, .int .i64 65536] (0, 0) _ rfl (by refine aU (cs := #[.int .i64 6, .int .i64 0]) ?_ 1 _ rfl; refine aU (cs := #[.int .i64 0, .int .i64 0]) ?_ 0 _ rfl; exact eX (bk_ BK221.1) NB221_220.1) Tryz.underlying40 rfl (by kernel_rfl) .nil)))) rfl ?_; exact ⟨er_, bl2_ HB.1 GE220.1 GE221.1⟩
 have c3b0 := decide_eq_false c3; have c3b1 : decide (65536 < a0.size) = false := decide_eq_false (by omega); clear c3; have HC9 := af.mk H; clear H
 go_enter Tryz.func49, Tryz.ntmps49
 go_upto_region 3 with (first | ((with_reducible refine aA (N := 4) rfl ?_); (try (refine bE (by rfl) ?_; dsimp only)); refine bx_ (N := 4) (cs := #[.int .i64 0, .string (⟨#[]⟩ : ByteArray), .int .i64 0, .int .i64 0]) (t := 50) ?_; intro gb220 hg w10 hbox hb; have n0_ := af.mk (ah (bl_ HB.1) hb); have n1_ := af.mk (hbox); have n2_ := af.mk (bz_ (w := w) hg (bl_ HB.1)); have n3_ := af.mk (bz_ (w := w) hg (bl_ HB.1)); clear HB; have HB := n0_; have BK220 := n1_; have GW220 := n2_; have GE220 := n3_; clear n0_ n1_ n2_ n3_; clear hb hbox hg) | ((with_reducible refine aA (N := 6) rfl ?_); (try (refine bE (by rfl) ?_; dsimp only)); refine bx_ (N := 6) (cs := #[.int .i64 0, .int .i64 0]) (t := 40) ?_; intro gb221 hg w11 hbox hb; have n0_ := af.mk (bb_ BK220.1 hb); have n1_ := af.mk (ah (bl1_ HB.1 GE220.1) hb); have n2_ := af.mk (hbox); have n3_ := af.mk (bz_ (w := w) hg (bl1_ HB.1 GE220.1)); have n4_ := af.mk (bz_ (w := w) hg (bl1_ HB.1 GE220.1)); have n5_ := af.mk (nl_ hg BK220.1); have n6_ := af.mk (ng_ hg BK220.1); clear BK220; clear HB; have BK220 := n0_; have HB := n1_; have BK221 := n2_; have GW221 := n3_; have GE221 := n4_; have NB220_221 := n5_; have NB221_220 := n6_; clear n0_ n1_ n2_ n3_ n4_ n5_ n6_; clear hb hbox hg))
 (try simp only [Act.put, List.setIfInBounds_toArray, List.set_cons_zero, List.set_cons_succ])
 go_cut [23] (fun v23 wc => ∃ (kq : Nat) (x23_8 : Bool), v23 = .bool x23_8 ∧ af (bM.j0 kq a0 a1 x23_8 = some (r1, r2, r3, r4, r5, r6, r7)) ∧ af (kq ≤ k) ∧ af (wc.heap[gb220]? = some (.cells #[.int .i64 0, .string (⟨#[]⟩ : ByteArray), .int .i64 0, .int .i64 0] 50 (0, 0))) ∧ af (wc.heap[gb221]? = some (.cells #[.int .i64 0, .int .i64 0] 40 (0, 0))) ∧ af (Below w.heap.size w wc))
 case first =>
  have H := HC9.1; clear HC9; replace H := sd_ H; obtain ⟨c12b0, H⟩ | ⟨c12b0, H⟩ := H
  ·
   (first | rw [c12b0] | (simp only [cz, cK]; rw [c12b0]) | skip)
   have H' := af.mk H; clear H
   go_wp2
   go_meet
   case rel => exact ⟨_, (true), sr_, H', ⟨by first | omega | exact Nat.le_refl _⟩, ⟨bk_ BK220.1⟩, ⟨bk_ BK221.1⟩, ⟨bl2_ HB.1 GE220.1 GE221.1⟩⟩
  (first | rw [c12b0] | (simp only [cz, cK]; rw [c12b0]) | skip)
  have H' := af.mk H; clear H
  go_wp2
  go_meet
  case rel => exact ⟨_, (decide (a1 > (a0.size : Int))), sr_, H', ⟨by first | omega | exact Nat.le_refl _⟩, ⟨bk_ BK220.1⟩, ⟨bk_ BK221.1⟩, ⟨bl2_ HB.1 GE220.1 GE221.1⟩⟩
 case rest =>
  clear HC9; (try clear c3); (try clear c3b0); (try clear c3b1); obtain ⟨kq, x23_8, rfl, HA, HJ8, BK220, BK221, HB⟩ := hcut
  cases kq with
  | zero => exact absurd HA.1 (by simp [bM.j0])
  | succ kj8 =>
   have H := HA.1; clear HA; simp only [bM.j0] at H; replace H := sb_ H; obtain ⟨rfl, H⟩ | ⟨rfl, H⟩ := H
   ·
    simp only [Option.some.injEq, Prod.mk.injEq] at H; obtain ⟨rfl, rfl, rfl, rfl, rfl, rfl, rfl⟩ := H; have hnb14 := NB220_221.1; have hnc14 := NB221_220.1; obtain ⟨hcz15_0, hcz15_1, hcz15_2, hcz15_3, hfz15_0, hfz15_1, hfz15_2, hfz15_3⟩ := cq4_ BK220.1; obtain ⟨hcz16_0, hcz16_1, hfz16_0, hfz16_1⟩ := cq2_ BK221.1
    go_wp2
    refine bodyPost_ret (dO (rs := [.cell 4 50, .tmp 5, .cell 6 40]) rfl (by simp) (.cell gb220 50 #[.int .i64 0, .string (⟨#[]⟩ : ByteArray), .int .i64 0, .int .i64 0] (0, 0) _ rfl (by exact dC (dK (bk_ BK220.1)) NB220_221.1) Tryz.underlying50 rfl (by kernel_rfl) (.tmp (.cell gb221 40 #[.int .i64 1, .int .i64 0] (0, 0) _ rfl (by refine aU (cs := #[.int .i64 1, .int .i64 0]) ?_ 1 _ rfl; refine aU (cs := #[.int .i64 0, .int .i64 0]) ?_ 0 _ rfl; exact eX (bk_ BK221.1) NB221_220.1) Tryz.underlying40 rfl (by kernel_rfl) .nil)))) rfl ?_; exact ⟨er_, bl2_ HB.1 GE220.1 GE221.1⟩
   replace H := bn_ H; obtain ⟨t222, A17, H⟩ := H; (try dsimp only at H); replace H := bn_ H; obtain ⟨⟨t223, t224, t225, t226, t227, t228⟩, A18, H⟩ := H; (try dsimp only at H); replace H := sp_ H; obtain ⟨c19, H⟩ | ⟨c19, H⟩ := H
   ·
    have c19b0 := beq_iff_eq.mpr c19; have c19b1 := bne_eq_false_iff_eq.mpr c19; clear c19; simp only [Option.some.injEq, Prod.mk.injEq] at H; obtain ⟨rfl, rfl, rfl, rfl, rfl, rfl, rfl⟩ := H
    go_wp2_with (first | ((with_reducible refine aj (f := 65) rfl ?_); refine gk_ (some 28) Tryz.func65 (aM.calls kj8 a0 a1 t222 _ A17.1) ?_; rintro e w' ⟨rfl, ⟨nd, rfl⟩⟩; refine ⟨_, rfl, ?_⟩; (try (rw [dh wc]; generalize hq_ : World.drewN wc _ = wc; have n0_ := af.mk (bw_ hq_.symm (bk_ BK220.1)); have n1_ := af.mk (bw_ hq_.symm (bk_ BK221.1)); have n2_ := af.mk (bW_ hq_.symm (bl2_ HB.1 GE220.1 GE221.1)); clear BK220 BK221 HB hq_; have BK220 := n0_; have BK221 := n1_; have HB := n2_; clear n0_ n1_ n2_))) | ((with_reducible refine aj (f := 64) rfl ?_); refine gk_ (some 32) Tryz.func64 (aG.calls kj8 a0 t222 t223 t224 t225 t226 t227 t228 _ A18.1) ?_; rintro e w20 ⟨rfl, hb⟩; refine ⟨_, rfl, ?_⟩; refine fu (bb_ BK220.1 hb) (bb_ BK221.1 hb) (ah (bl2_ HB.1 GE220.1 GE221.1) hb) ?_; clear hb BK220 BK221 HB; intro BK220 BK221 HB) | ((with_reducible refine aA (N := 8) rfl ?_); (try (refine bE (by rfl) ?_; dsimp only)); refine bx_ (N := 8) (cs := #[.int .i64 0, .string (⟨#[]⟩ : ByteArray), .int .i64 0, .int .i64 0]) (t := 50) ?_; intro gb229 hg w21 hbox hb; refine jr (bb_ BK220.1 hb) (bb_ BK221.1 hb) (ah (bl2_ HB.1 GE220.1 GE221.1) hb) (hbox) (bz_ (w := w) hg (bl2_ HB.1 GE220.1 GE221.1)) (bz_ (w := w) hg (bl2_ HB.1 GE220.1 GE221.1)) (nl_ hg BK220.1) (ng_ hg BK220.1) (nl_ hg BK221.1) (ng_ hg BK221.1) ?_; clear BK220 BK221 HB; intro BK220 BK221 HB BK229 GW229 GE229 NB220_229 NB229_220 NB221_229 NB229_221; clear hb hbox hg; have hnb22 := NB229_220.1; have hnc22 := NB220_229.1; have hnb23 := NB229_221.1; have hnc23 := NB221_229.1; obtain ⟨hcz24_0, hcz24_1, hcz24_2, hcz24_3, hfz24_0, hfz24_1, hfz24_2, hfz24_3⟩ := cq4_ BK229.1; have hnb25 := NB220_221.1; have hnc25 := NB221_220.1; obtain ⟨hcz26_0, hcz26_1, hcz26_2, hcz26_3, hfz26_0, hfz26_1, hfz26_2, hfz26_3⟩ := cq4_ BK220.1; obtain ⟨hcz27_0, hcz27_1, hfz27_0, hfz27_1⟩ := cq2_ BK221.1))
    refine bodyPost_ret (dO (rs := [.cell 4 50, .tmp 5, .cell 6 40]) rfl (by simp) (.cell gb220 50 #[.int .i64 t223, .string t224, .int .i64 t225, .int .i64 t226] (0, 0) _ rfl (by refine dC ?_ NB220_221.1; refine aU (cs := #[.int .i64 t223, .string t224, .int .i64 t225, .int .i64 0]) ?_ 3 _ rfl; refine aU (cs := #[.int .i64 t223, .string t224, .int .i64 0, .int .i64 0]) ?_ 2 _ rfl; refine aU (cs := #[.int .i64 t223, .string (⟨#[]⟩ : ByteArray), .int .i64 0, .int .i64 0]) ?_ 1 _ rfl; refine aU (cs := #[.int .i64 0, .string (⟨#[]⟩ : ByteArray), .int .i64 0, .int .i64 0]) ?_ 0 _ rfl; exact eX (bk_ BK220.1) NB220_229.1) Tryz.underlying50 rfl (by kernel_rfl) (.tmp (.cell gb221 40 #[.int .i64 0, .int .i64 0] (0, 0) _ rfl (by refine aU (cs := #[.int .i64 0, .int .i64 0]) ?_ 1 _ rfl; refine aU (cs := #[.int .i64 0, .int .i64 0]) ?_ 0 _ rfl; exact eX (eX (bk_ BK221.1) NB221_229.1) NB221_220.1) Tryz.underlying40 rfl (by kernel_rfl) .nil)))) rfl ?_; exact ⟨er_, bl3_ HB.1 GE220.1 GE221.1 GE229.1⟩
   have c19b0 := beq_eq_false_iff_ne.mpr c19; have c19b1 := bne_iff_ne.mpr c19; simp only [Option.some.injEq, Prod.mk.injEq] at H; obtain ⟨rfl, rfl, rfl, rfl, rfl, rfl, rfl⟩ := H
   go_wp2_with (first | ((with_reducible refine aj (f := 65) rfl ?_); refine gk_ (some 28) Tryz.func65 (aM.calls kj8 a0 a1 t222 _ A17.1) ?_; rintro e w' ⟨rfl, ⟨nd, rfl⟩⟩; refine ⟨_, rfl, ?_⟩; (try (rw [dh wc]; generalize hq_ : World.drewN wc _ = wc; have n0_ := af.mk (bw_ hq_.symm (bk_ BK220.1)); have n1_ := af.mk (bw_ hq_.symm (bk_ BK221.1)); have n2_ := af.mk (bW_ hq_.symm (bl2_ HB.1 GE220.1 GE221.1)); clear BK220 BK221 HB hq_; have BK220 := n0_; have BK221 := n1_; have HB := n2_; clear n0_ n1_ n2_))) | ((with_reducible refine aj (f := 64) rfl ?_); refine gk_ (some 32) Tryz.func64 (aG.calls kj8 a0 t222 t223 t224 t225 t226 t227 t228 _ A18.1) ?_; rintro e w28 ⟨rfl, hb⟩; refine ⟨_, rfl, ?_⟩; refine fu (bb_ BK220.1 hb) (bb_ BK221.1 hb) (ah (bl2_ HB.1 GE220.1 GE221.1) hb) ?_; clear hb BK220 BK221 HB; intro BK220 BK221 HB) | ((with_reducible refine aA (N := 8) rfl ?_); (try (refine bE (by rfl) ?_; dsimp only)); refine bx_ (N := 8) (cs := #[.int .i64 0, .string (⟨#[]⟩ : ByteArray), .int .i64 0, .int .i64 0]) (t := 50) ?_; intro gb229 hg w29 hbox hb; refine jr (bb_ BK220.1 hb) (bb_ BK221.1 hb) (ah (bl2_ HB.1 GE220.1 GE221.1) hb) (hbox) (bz_ (w := w) hg (bl2_ HB.1 GE220.1 GE221.1)) (bz_ (w := w) hg (bl2_ HB.1 GE220.1 GE221.1)) (nl_ hg BK220.1) (ng_ hg BK220.1) (nl_ hg BK221.1) (ng_ hg BK221.1) ?_; clear BK220 BK221 HB; intro BK220 BK221 HB BK229 GW229 GE229 NB220_229 NB229_220 NB221_229 NB229_221; clear hb hbox hg; have hnb30 := NB229_220.1; have hnc30 := NB220_229.1; have hnb31 := NB229_221.1; have hnc31 := NB221_229.1; obtain ⟨hcz32_0, hcz32_1, hcz32_2, hcz32_3, hfz32_0, hfz32_1, hfz32_2, hfz32_3⟩ := cq4_ BK229.1; have hnb33 := NB220_221.1; have hnc33 := NB221_220.1; obtain ⟨hcz34_0, hcz34_1, hcz34_2, hcz34_3, hfz34_0, hfz34_1, hfz34_2, hfz34_3⟩ := cq4_ BK220.1; obtain ⟨hcz35_0, hcz35_1, hfz35_0, hfz35_1⟩ := cq2_ BK221.1))
   refine bodyPost_ret (dO (rs := [.cell 4 50, .tmp 5, .cell 6 40]) rfl (by simp) (.cell gb220 50 #[.int .i64 0, .string (⟨#[]⟩ : ByteArray), .int .i64 0, .int .i64 0] (0, 0) _ rfl (by refine dC ?_ NB220_221.1; refine aU (cs := #[.int .i64 0, .string (⟨#[]⟩ : ByteArray), .int .i64 0, .int .i64 0]) ?_ 3 _ rfl; refine aU (cs := #[.int .i64 0, .string (⟨#[]⟩ : ByteArray), .int .i64 0, .int .i64 0]) ?_ 2 _ rfl; refine aU (cs := #[.int .i64 0, .string (⟨#[]⟩ : ByteArray), .int .i64 0, .int .i64 0]) ?_ 1 _ rfl; refine aU (cs := #[.int .i64 0, .string (⟨#[]⟩ : ByteArray), .int .i64 0, .int .i64 0]) ?_ 0 _ rfl; exact eX (bk_ BK220.1) NB220_229.1) Tryz.underlying50 rfl (by kernel_rfl) (.tmp (.cell gb221 40 #[.int .i64 t228, .int .i64 t222] (0, 0) _ rfl (by refine aU (cs := #[.int .i64 t228, .int .i64 0]) ?_ 1 _ rfl; refine aU (cs := #[.int .i64 0, .int .i64 0]) ?_ 0 _ rfl; exact eX (eX (bk_ BK221.1) NB221_229.1) NB221_220.1) Tryz.underlying40 rfl (by kernel_rfl) .nil)))) rfl ?_; exact ⟨er_, bl3_ HB.1 GE220.1 GE221.1 GE229.1⟩
def bN.l0 : Nat → ByteArray → List (S46) → Int → Option ((List (S46)) × Int × Int)
 | 0, _, _, _ => none
 | k + 1, x0, x4, x5 => (bM.f k x0 x5).bind fun bt234 => (if bt234.2.2.2.2.2.1 = 0 then (if x4.length < 3518437208883 then ((some (x4 ++ [(⟨bt234.1, bt234.2.1, bt234.2.2.1, bt234.2.2.2.1⟩ : S46)] : List (S46))).bind fun y243 => (if bt234.1 = 5 then (some (y243, 0, 0)) else (bN.l0 k x0 y243 bt234.2.2.2.2.1))) else (none)) else (some (([] : List (S46)), bt234.2.2.2.2.2.1, bt234.2.2.2.2.2.2)))
def bN.f (k : Nat) (a0 : ByteArray) : Option ((List (S46)) × Int × Int) := bN.l0 k a0 (([] : List (S46))) 0
theorem bN.calls (k : Nat) (a0 : ByteArray) (r1 : List (S46)) (r2 : Int) (r3 : Int) (w : World) (h : bN.f k a0 = some (r1, r2, r3)) :
  Calls Tryz.prog 34 #[.string a0] w fun e w' => ∃ v0_ : Value, e = .returned (.tuple #[v0_, .agg #[.int .i64 r2, .int .i64 r3]]) ∧ Kd.R k46 50 w' w.heap.size (fun _ => True) v0_ r1 ∧ Below w.heap.size w w' := by
 have hu26 := Tryz.underlying40; have hu46 := Tryz.underlying50; have HB := af.mk (Below.refl w.heap.size w); have H : (bN.l0 k a0 (([] : List (S46))) 0) = some (r1, r2, r3) := h; clear h; obtain ⟨y231, hy231⟩ : ∃ y_ : List (S46), y_ = (([] : List (S46))) := ⟨_, rfl⟩; replace H : (bN.l0 k a0 y231 0) = some (r1, r2, r3) := by first | (rw [hy231]; with_reducible exact H) | (have H2_ := (Option.bind_some _ _).symm.trans H; rw [hy231]; with_reducible exact H2_) | (have H2_ := (Option.bind_some _ _).symm.trans H; with_reducible exact H2_) | with_reducible exact H | (rw [hy231]; exact H) | exact H
 have Ny231 := af.mk hy231; clear hy231; have H' := af.mk H; clear H
 go_enter Tryz.func34, Tryz.ntmps34
 go_wp2_with (first | ((with_reducible refine aA (N := 3) rfl ?_); refine bx_ (N := 3) (cs := #[.int .i64 0, .int .i64 0]) (t := 40) ?_; intro gb230 hg w2 hbox hb; refine df (ah (bl_ HB.1) hb) (hbox) (bz_ (w := w) hg (bl_ HB.1)) (bz_ (w := w) hg (bl_ HB.1)) ?_; clear HB; intro HB BK230 GW230 GE230; clear hb hbox hg) | ((with_reducible refine aA (N := 9) rfl ?_); refine Kd.R_lit k46 _ 50 ?hg (N := 9) ?hd (xs := ([] : List (S46))) (inner := []) (ok := fun _ => True) (okp := fun _ => True) ?hr ?hp (fun _ hk => hk) trivial (Below.refl _ _) (Nat.le_refl _) (by simp) ?_; (case hd => rfl); (case hg => rfl); (case hr => first | (go_simp; done) | (go_simp; rfl)); (case hp => exact (Reps.none _ _)); intro v232 w3 ho4 hb hg_ hnew_; clear hg_ hnew_; (first | rw [← Ny231.1] at ho4 | (simp only [Int.reduceToNat] at ho4; rw [← Ny231.1] at ho4)); refine fu (Kd.dB ho4 (bH (bl1_ HB.1 GE230.1))) (bb_ BK230.1 hb) (ah (bl1_ HB.1 GE230.1) hb) ?_; clear BK230 HB; intro HO233 BK230 HB; clear hb ho4))
 go_loopg [4, 5] k (fun kq v4 v5 w' => ∃ (x4_1 : List (S46)) (x5_1 : Int) (x231000_1 : Int) (x231001_1 : Int), v5 = .int .i64 x5_1 ∧ af (bN.l0 kq a0 x4_1 x5_1 = some (r1, r2, r3)) ∧ af (kq ≤ k) ∧ af (Kd.R k46 50 w' w.heap.size (fun _ => True) v4 x4_1) ∧ af (w'.heap[gb230]? = some (.cells #[.int .i64 x231000_1, .int .i64 x231001_1] 40 (0, 0))) ∧ af (Below w.heap.size w w'))
 case atStart => exact ⟨(y231), (0), (0), (0), sr_, H', ⟨Nat.le_refl _⟩, ⟨rR_ HO233.1⟩, ⟨bk_ BK230.1⟩, ⟨bl1_ HB.1 GE230.1⟩⟩
 case round =>
  clear H'; obtain ⟨x4_1, x5_1, x231000_1, x231001_1, rfl, HA, HK1, HO_4, BK230, HB⟩ := hrel; obtain _ | k1 := gk
  · exact absurd HA.1 (by simp [bN.l0])
  have H := HA.1; clear HA; simp only [bN.l0] at H; replace H := bn_ H; obtain ⟨⟨t234, t235, t236, t237, t238, t239, t240⟩, A5, H⟩ := H; (try dsimp only at H); replace H := (sp_ H).symm; obtain ⟨c6, H⟩ | ⟨c6, H⟩ := H
  ·
   have c6b0 := beq_eq_false_iff_ne.mpr c6; have c6b1 := bne_iff_ne.mpr c6; simp only [Option.some.injEq, Prod.mk.injEq] at H; obtain ⟨rfl, rfl, rfl⟩ := H
   try go_wp2_with (first | ((with_reducible refine aj (f := 49) rfl ?_); refine gk_ (some 13) Tryz.func49 (bM.calls k1 a0 x5_1 t234 t235 t236 t237 t238 t239 t240 _ A5.1) ?_; rintro e w30 ⟨rfl, hb⟩; refine ⟨_, rfl, ?_⟩; refine fu (Kd.aW (rR_ HO_4.1) hb) (bb_ BK230.1 hb) (ah (bl1_ HB.1 GE230.1) hb) ?_; clear hb HO_4 BK230 HB; intro HO_4 BK230 HB) | ((with_reducible refine aA (N := 6) rfl ?_); refine bx_ (N := 6) (cs := #[.int .i64 0, .string (⟨#[]⟩ : ByteArray), .int .i64 0, .int .i64 0]) (t := 50) ?_; intro gb241 hg w31 hbox hb; refine jm (Kd.aW (Kd.eG (rR_ HO_4.1) gb241 (Nat.le_of_eq hg.symm)) hb) (bb_ BK230.1 hb) (ah (bl1_ HB.1 GE230.1) hb) (hbox) (bz_ (w := w) hg (bl1_ HB.1 GE230.1)) (bz_ (w := w) hg (bl1_ HB.1 GE230.1)) (nl_ hg BK230.1) (ng_ hg BK230.1) ?_; clear HO_4 BK230 HB; intro HO_4 BK230 HB BK241 GW241 GE241 NB230_241 NB241_230; clear hb hbox hg) | ((with_reducible refine aA (N := 8) rfl ?_); refine bx_ (N := 8) (cs := #[.int .i64 0, .int .i64 0]) (t := 40) ?_; intro gb242 hg w32 hbox hb; refine kr (Kd.aW (rR_ HO_4.1) hb) (bb_ BK230.1 hb) (bb_ BK241.1 hb) (ah (bl2_ HB.1 GE230.1 GE241.1) hb) (hbox) (bz_ (w := w) hg (bl2_ HB.1 GE230.1 GE241.1)) (bz_ (w := w) hg (bl2_ HB.1 GE230.1 GE241.1)) (nl_ hg BK230.1) (ng_ hg BK230.1) (nl_ hg BK241.1) (ng_ hg BK241.1) ?_; clear HO_4 BK230 BK241 HB; intro HO_4 BK230 BK241 HB BK242 GW242 GE242 NB230_242 NB242_230 NB241_242 NB242_241; clear hb hbox hg; have hnb33 := NB241_230.1; have hnc33 := NB230_241.1; have hnb34 := NB241_242.1; have hnc34 := NB242_241.1; obtain ⟨hcz35_0, hcz35_1, hcz35_2, hcz35_3, hfz35_0, hfz35_1, hfz35_2, hfz35_3⟩ := cq4_ BK241.1; have hnb36 := NB242_230.1; have hnc36 := NB230_242.1; obtain ⟨hcz37_0, hcz37_1, hfz37_0, hfz37_1⟩ := cq2_ BK242.1))
   have n0_ : af (Kd.R k46 50 ((((((w32.setCell ⟨gb241, 0, none⟩ (.int .i64 t234)).setCell ⟨gb241, 1, none⟩ (.string t235)).setCell ⟨gb241, 2, none⟩ (.int .i64 t236)).setCell ⟨gb241, 3, none⟩ (.int .i64 t237)).setCell ⟨gb242, 0, none⟩ (.int .i64 t239)).setCell ⟨gb242, 1, none⟩ (.int .i64 t240)) w.heap.size (fun k_ => k_ ≠ gb241) u4 x4_1) := ⟨rR_ (Kd.aQ (rf2_ gb242 (Kd.bR (p := ⟨gb241, 3, none⟩) (Kd.bR (p := ⟨gb241, 2, none⟩) (Kd.bR (p := ⟨gb241, 1, none⟩) (Kd.bR (p := ⟨gb241, 0, none⟩) (Kd.bu (Kd.aQ HO_4.1 (fun k_ hk => (⟨hk, hk.2⟩ : _ ∧ k_ ≠ gb241))) BK242.1 (by decide)) (fun _ hk => hk.1.2) (.int .i64 t234)) (fun _ hk => hk.1.2) (.string t235)) (fun _ hk => hk.1.2) (.int .i64 t236)) (fun _ hk => hk.1.2) (.int .i64 t237))) (fun _ hk => hk.1.1.2))⟩; have n1_ : af (((((((w32.setCell ⟨gb241, 0, none⟩ (.int .i64 t234)).setCell ⟨gb241, 1, none⟩ (.string t235)).setCell ⟨gb241, 2, none⟩ (.int .i64 t236)).setCell ⟨gb241, 3, none⟩ (.int .i64 t237)).setCell ⟨gb242, 0, none⟩ (.int .i64 t239)).setCell ⟨gb242, 1, none⟩ (.int .i64 t240)).heap[gb230]? = some (.cells #[.int .i64 x231000_1, .int .i64 x231001_1] 40 (0, 0))) := ⟨dC (eX (bk_ BK230.1) NB230_241.1) NB230_242.1⟩; have n2_ : af (((((((w32.setCell ⟨gb241, 0, none⟩ (.int .i64 t234)).setCell ⟨gb241, 1, none⟩ (.string t235)).setCell ⟨gb241, 2, none⟩ (.int .i64 t236)).setCell ⟨gb241, 3, none⟩ (.int .i64 t237)).setCell ⟨gb242, 0, none⟩ (.int .i64 t239)).setCell ⟨gb242, 1, none⟩ (.int .i64 t240)).heap[gb241]? = some (.cells #[.int .i64 t234, .string t235, .int .i64 t236, .int .i64 t237] 50 (0, 0))) := ⟨dC (dK (bk_ BK241.1)) NB241_242.1⟩; have n3_ : af (((((((w32.setCell ⟨gb241, 0, none⟩ (.int .i64 t234)).setCell ⟨gb241, 1, none⟩ (.string t235)).setCell ⟨gb241, 2, none⟩ (.int .i64 t236)).setCell ⟨gb241, 3, none⟩ (.int .i64 t237)).setCell ⟨gb242, 0, none⟩ (.int .i64 t239)).setCell ⟨gb242, 1, none⟩ (.int .i64 t240)).heap[gb242]? = some (.cells #[.int .i64 t239, .int .i64 t240] 40 (0, 0))) := ⟨by refine aU (cs := #[.int .i64 t239, .int .i64 0]) ?_ 1 _ rfl; refine aU (cs := #[.int .i64 0, .int .i64 0]) ?_ 0 _ rfl; exact eX (bk_ BK242.1) NB242_241.1⟩; have n4_ : af (Below w.heap.size w ((((((w32.setCell ⟨gb241, 0, none⟩ (.int .i64 t234)).setCell ⟨gb241, 1, none⟩ (.string t235)).setCell ⟨gb241, 2, none⟩ (.int .i64 t236)).setCell ⟨gb241, 3, none⟩ (.int .i64 t237)).setCell ⟨gb242, 0, none⟩ (.int .i64 t239)).setCell ⟨gb242, 1, none⟩ (.int .i64 t240))) := ⟨bl3_ HB.1 GE230.1 GE241.1 GE242.1⟩; (try clear HO_4); (try clear BK230); (try clear BK241); (try clear BK242); (try clear HB); generalize ((((((w32.setCell ⟨gb241, 0, none⟩ (.int .i64 t234)).setCell ⟨gb241, 1, none⟩ (.string t235)).setCell ⟨gb241, 2, none⟩ (.int .i64 t236)).setCell ⟨gb241, 3, none⟩ (.int .i64 t237)).setCell ⟨gb242, 0, none⟩ (.int .i64 t239)).setCell ⟨gb242, 1, none⟩ (.int .i64 t240)) = w38 at n0_ n1_ n2_ n3_ n4_ ⊢; have HO_4 := n0_; have BK230 := n1_; have BK241 := n2_; have BK242 := n3_; have HB := n4_; clear n0_ n1_ n2_ n3_ n4_; refine gm (Kd.dU HO_4.1) (bI BK230.1) (bI BK241.1) (bI BK242.1) (bD HB.1) ?_; clear HO_4 BK230 BK241 BK242 HB; intro HO_4 BK230 BK241 BK242 HB; refine dX (n := 3) (S := fun w' => w'.cell? ⟨gb242, 0, none⟩ = some (.int .i64 t239) ∧ w'.cell? ⟨gb242, 1, none⟩ = some (.int .i64 t240)) (ds := []) #[false, false, false] (by kernel_rfl) rfl rfl ⟨ce_ BK242.1 0, ce_ BK242.1 1⟩ (fun hHeld => ?_); generalize w38.drew = w39 at HO_4 BK230 BK241 BK242 HB hHeld ⊢; refine pr_ (i := 1) (N := some 2) #[false, true, false] (by kernel_rfl) ?_; refine take_ (i := 0) (N := some 20) (v := ?_) (a' := ?_) #[true, true, false] rfl rfl (by kernel_rfl) (fun _ _ _ h => h) (Or.inl ⟨by rfl, ?_⟩) hHeld ?_ ?_; rotate_left
   ·
    rintro w' ⟨s0, s1⟩; go_simp
    with_reducible rfl
   rotate_left
   ·
    simp only [Act.put, List.setIfInBounds_toArray, List.set_cons_zero, List.set_cons_succ, cz, cK]
    rfl
   refine one_ (i := 2) (N := none) #[true, true, true] rfl rfl (by kernel_rfl) (by decide) (fun K hK => ?_); have hs40 : w39.cell? ⟨gb230, 0, none⟩ = some (.int .i64 x231000_1) := (ax BK230.1 0).trans rfl; have hfs40 := aC BK230.1 0; have hns40_1 := NB241_230.1; have hns40_2 := NB242_230.1; have hms40_1 := NB230_241.1; have hms40_2 := NB230_242.1; have hs41 : w39.cell? ⟨gb230, 1, none⟩ = some (.int .i64 x231001_1) := (ax BK230.1 1).trans rfl; have hfs41 := aC BK230.1 1; have hns41_1 := NB241_230.1; have hns41_2 := NB242_230.1; have hms41_1 := NB230_241.1; have hms41_2 := NB230_242.1; refine sk_ ?_; refine hK.out _ _ ⟨(cf2_ gb230 NB242_230.1 hHeld.1), (cf2_ gb230 NB242_230.1 hHeld.2)⟩ (fun hHeld => ?_); clear hK K; refine gB (by kernel_rfl) ?_
   try go_wp2
   refine bodyPost_ret (eF rfl _ _ gb230 40 #[.int .i64 t239, .int .i64 t240] (0, 0) _ rfl (by exact gU (bk_ BK230.1)) Tryz.underlying40 rfl (by kernel_rfl)) rfl ?_; exact ⟨_, er_, ni_, bl3_ HB.1 GE230.1 GE241.1 GE242.1⟩
  have c6b0 := beq_iff_eq.mpr c6; have c6b1 := bne_eq_false_iff_eq.mpr c6; clear c6; replace H := gp_ H; obtain ⟨c7, H⟩ := H; have LMc7 := af.mk c7; clear c7; obtain ⟨y243, hy243⟩ : ∃ y_ : List (S46), y_ = (x4_1 ++ [(⟨t234, t235, t236, t237⟩ : S46)]) := ⟨_, rfl⟩; replace H : (if t234 = 5 then (some (y243, 0, 0)) else (bN.l0 k1 a0 y243 t238)) = some (r1, r2, r3) := by first | (rw [hy243]; with_reducible exact H) | (have H2_ := (Option.bind_some _ _).symm.trans H; rw [hy243]; with_reducible exact H2_) | (have H2_ := (Option.bind_some _ _).symm.trans H; with_reducible exact H2_) | with_reducible exact H | (rw [hy243]; exact H) | exact H
  have Ny243 := af.mk hy243; clear hy243; replace H := (sp_ H).symm; obtain ⟨c8, H⟩ | ⟨c8, H⟩ := H
  ·
   have c8b0 := beq_eq_false_iff_ne.mpr c8; have c8b1 := bne_iff_ne.mpr c8; have H' := af.mk H; clear H
   go_wp2_with (first | ((with_reducible refine aj (f := 49) rfl ?_); refine gk_ (some 13) Tryz.func49 (bM.calls k1 a0 x5_1 t234 t235 t236 t237 t238 t239 t240 _ A5.1) ?_; rintro e w20 ⟨rfl, hb⟩; refine ⟨_, rfl, ?_⟩; refine fu (Kd.aW (rR_ HO_4.1) hb) (bb_ BK230.1 hb) (ah (bl1_ HB.1 GE230.1) hb) ?_; clear hb HO_4 BK230 HB; intro HO_4 BK230 HB) | ((with_reducible refine aA (N := 6) rfl ?_); refine bx_ (N := 6) (cs := #[.int .i64 0, .string (⟨#[]⟩ : ByteArray), .int .i64 0, .int .i64 0]) (t := 50) ?_; intro gb241 hg w21 hbox hb; refine jm (Kd.aW (Kd.eG (rR_ HO_4.1) gb241 (Nat.le_of_eq hg.symm)) hb) (bb_ BK230.1 hb) (ah (bl1_ HB.1 GE230.1) hb) (hbox) (bz_ (w := w) hg (bl1_ HB.1 GE230.1)) (bz_ (w := w) hg (bl1_ HB.1 GE230.1)) (nl_ hg BK230.1) (ng_ hg BK230.1) ?_; clear HO_4 BK230 HB; intro HO_4 BK230 HB BK241 GW241 GE241 NB230_241 NB241_230; clear hb hbox hg) | ((with_reducible refine aA (N := 8) rfl ?_); refine bx_ (N := 8) (cs := #[.int .i64 0, .int .i64 0]) (t := 40) ?_; intro gb242 hg w22 hbox hb; refine kr (Kd.aW (rR_ HO_4.1) hb) (bb_ BK230.1 hb) (bb_ BK241.1 hb) (ah (bl2_ HB.1 GE230.1 GE241.1) hb) (hbox) (bz_ (w := w) hg (bl2_ HB.1 GE230.1 GE241.1)) (bz_ (w := w) hg (bl2_ HB.1 GE230.1 GE241.1)) (nl_ hg BK230.1) (ng_ hg BK230.1) (nl_ hg BK241.1) (ng_ hg BK241.1) ?_; clear HO_4 BK230 BK241 HB; intro HO_4 BK230 BK241 HB BK242 GW242 GE242 NB230_242 NB242_230 NB241_242 NB242_241; clear hb hbox hg; have hnb23 := NB241_230.1; have hnc23 := NB230_241.1; have hnb24 := NB241_242.1; have hnc24 := NB242_241.1; obtain ⟨hcz25_0, hcz25_1, hcz25_2, hcz25_3, hfz25_0, hfz25_1, hfz25_2, hfz25_3⟩ := cq4_ BK241.1; have hnb26 := NB242_230.1; have hnc26 := NB230_242.1; obtain ⟨hcz27_0, hcz27_1, hfz27_0, hfz27_1⟩ := cq2_ BK242.1) | ((with_reducible refine fw (b := .append) (xs := #[.tmp 21, .tmp 23]) rfl ?_); at_builtin; refine Kd.iD k46 (w0 := w) w.heap.size rfl (.tmp 21) (.tmp 23) 22 50 (.agg #[(.int .i64 0), (.string ⟨#[]⟩), (.int .i64 0), (.int .i64 0)]) 40 rfl Tryz.underlying22 kK rfl (by decide) (by omega) u4 x4_1 (⟨t234, t235, t236, t237⟩ : S46) [.int .i64 t234, .string t235, .int .i64 t236, .int .i64 t237] (fun k_ => k_ ≠ gb241) (fun _ => False) rfl (by first | (go_simp; done) | (go_simp; rfl)) ?aP (fun _ hk => hk.elim) ?aF ?aO ?aB ?aS ?aL ?_; (case aP => exact jD _ _ _ (⟨t234, t235, t236, t237⟩ : S46)); (case aB => exact (bl3_ HB.1 GE230.1 GE241.1 GE242.1)); (case aF => exact (fun k_ hk => Kd.jq (g := gb241) (o := .cells #[.int .i64 t234, .string t235, .int .i64 t236, .int .i64 t237] 50 (0, 0)) (by exact dC (dK (bk_ BK241.1)) NB241_242.1) k_ hk)); (case aO => exact (rR_ (Kd.aQ (rf2_ gb242 (Kd.bR (p := ⟨gb241, 3, none⟩) (Kd.bR (p := ⟨gb241, 2, none⟩) (Kd.bR (p := ⟨gb241, 1, none⟩) (Kd.bR (p := ⟨gb241, 0, none⟩) (Kd.bu (Kd.aQ HO_4.1 (fun k_ hk => (⟨hk, hk.2⟩ : _ ∧ k_ ≠ gb241))) BK242.1 (by decide)) (fun _ hk => hk.1.2) (.int .i64 t234)) (fun _ hk => hk.1.2) (.string t235)) (fun _ hk => hk.1.2) (.int .i64 t236)) (fun _ hk => hk.1.2) (.int .i64 t237))) (fun _ hk => hk.1.1.2)))); (case aS => exact (bH (bl3_ HB.1 GE230.1 GE241.1 GE242.1))); (case aL => have := LMc7.1; omega); intro v244 w28 ho hb hg hat; rw [← Ny243.1] at ho; refine gm (bX (g := gb230) (o := .cells #[.int .i64 x231000_1, .int .i64 x231001_1] 40 (0, 0)) (by exact dC (eX (bk_ BK230.1) NB230_241.1) NB230_242.1) hg (Kd.R_ne HO_4.1 BK230.1 (by decide))) (bX (g := gb241) (o := .cells #[.int .i64 t234, .string t235, .int .i64 t236, .int .i64 t237] 50 (0, 0)) (by exact dC (dK (bk_ BK241.1)) NB241_242.1) hg (Kd.jQ HO_4.1 (fun _ hk => hk.2))) (bX (g := gb242) (o := .cells #[.int .i64 t239, .int .i64 t240] 40 (0, 0)) (by refine aU (cs := #[.int .i64 t239, .int .i64 0]) ?_ 1 _ rfl; refine aU (cs := #[.int .i64 0, .int .i64 0]) ?_ 0 _ rfl; exact eX (bk_ BK242.1) NB242_241.1) hg (Kd.R_ne HO_4.1 BK242.1 (by decide))) (hb) (ho) ?_; clear BK230 BK241 BK242 HB HO_4; intro BK230 BK241 BK242 HB HO245; clear ho hb hg hat; obtain ⟨hcz29_0, hcz29_1, hcz29_2, hcz29_3, hfz29_0, hfz29_1, hfz29_2, hfz29_3⟩ := cq4_ BK241.1))
   go_roundg k1
   case measure => have := HK1.1; omega
   case rel => exact ⟨(y243), (t238), (x231000_1), (x231001_1), sr_, H', ⟨om_ HK1.1⟩, ⟨rR_ (Kd.aQ HO245.1 (fun _ hk => trivial))⟩, ⟨bk_ BK230.1⟩, ⟨bl3_ HB.1 GE230.1 GE241.1 GE242.1⟩⟩
  have c8b0 := beq_iff_eq.mpr c8; have c8b1 := bne_eq_false_iff_eq.mpr c8; clear c8; simp only [Option.some.injEq, Prod.mk.injEq] at H; obtain ⟨rfl, rfl, rfl⟩ := H
  go_wp2_with (first | ((with_reducible refine aj (f := 49) rfl ?_); refine gk_ (some 13) Tryz.func49 (bM.calls k1 a0 x5_1 t234 t235 t236 t237 t238 t239 t240 _ A5.1) ?_; rintro e w9 ⟨rfl, hb⟩; refine ⟨_, rfl, ?_⟩; refine fu (Kd.aW (rR_ HO_4.1) hb) (bb_ BK230.1 hb) (ah (bl1_ HB.1 GE230.1) hb) ?_; clear hb HO_4 BK230 HB; intro HO_4 BK230 HB) | ((with_reducible refine aA (N := 6) rfl ?_); refine bx_ (N := 6) (cs := #[.int .i64 0, .string (⟨#[]⟩ : ByteArray), .int .i64 0, .int .i64 0]) (t := 50) ?_; intro gb241 hg w10 hbox hb; refine jm (Kd.aW (Kd.eG (rR_ HO_4.1) gb241 (Nat.le_of_eq hg.symm)) hb) (bb_ BK230.1 hb) (ah (bl1_ HB.1 GE230.1) hb) (hbox) (bz_ (w := w) hg (bl1_ HB.1 GE230.1)) (bz_ (w := w) hg (bl1_ HB.1 GE230.1)) (nl_ hg BK230.1) (ng_ hg BK230.1) ?_; clear HO_4 BK230 HB; intro HO_4 BK230 HB BK241 GW241 GE241 NB230_241 NB241_230; clear hb hbox hg) | ((with_reducible refine aA (N := 8) rfl ?_); refine bx_ (N := 8) (cs := #[.int .i64 0, .int .i64 0]) (t := 40) ?_; intro gb242 hg w11 hbox hb; refine kr (Kd.aW (rR_ HO_4.1) hb) (bb_ BK230.1 hb) (bb_ BK241.1 hb) (ah (bl2_ HB.1 GE230.1 GE241.1) hb) (hbox) (bz_ (w := w) hg (bl2_ HB.1 GE230.1 GE241.1)) (bz_ (w := w) hg (bl2_ HB.1 GE230.1 GE241.1)) (nl_ hg BK230.1) (ng_ hg BK230.1) (nl_ hg BK241.1) (ng_ hg BK241.1) ?_; clear HO_4 BK230 BK241 HB; intro HO_4 BK230 BK241 HB BK242 GW242 GE242 NB230_242 NB242_230 NB241_242 NB242_241; clear hb hbox hg; have hnb12 := NB241_230.1; have hnc12 := NB230_241.1; have hnb13 := NB241_242.1; have hnc13 := NB242_241.1; obtain ⟨hcz14_0, hcz14_1, hcz14_2, hcz14_3, hfz14_0, hfz14_1, hfz14_2, hfz14_3⟩ := cq4_ BK241.1; have hnb15 := NB242_230.1; have hnc15 := NB230_242.1; obtain ⟨hcz16_0, hcz16_1, hfz16_0, hfz16_1⟩ := cq2_ BK242.1) | ((with_reducible refine fw (b := .append) (xs := #[.tmp 21, .tmp 23]) rfl ?_); at_builtin; refine Kd.iD k46 (w0 := w) w.heap.size rfl (.tmp 21) (.tmp 23) 22 50 (.agg #[(.int .i64 0), (.string ⟨#[]⟩), (.int .i64 0), (.int .i64 0)]) 40 rfl Tryz.underlying22 kK rfl (by decide) (by omega) u4 x4_1 (⟨t234, t235, t236, t237⟩ : S46) [.int .i64 t234, .string t235, .int .i64 t236, .int .i64 t237] (fun k_ => k_ ≠ gb241) (fun _ => False) rfl (by first | (go_simp; done) | (go_simp; rfl)) ?aP (fun _ hk => hk.elim) ?aF ?aO ?aB ?aS ?aL ?_; (case aP => exact jD _ _ _ (⟨t234, t235, t236, t237⟩ : S46)); (case aB => exact (bl3_ HB.1 GE230.1 GE241.1 GE242.1)); (case aF => exact (fun k_ hk => Kd.jq (g := gb241) (o := .cells #[.int .i64 t234, .string t235, .int .i64 t236, .int .i64 t237] 50 (0, 0)) (by exact dC (dK (bk_ BK241.1)) NB241_242.1) k_ hk)); (case aO => exact (rR_ (Kd.aQ (rf2_ gb242 (Kd.bR (p := ⟨gb241, 3, none⟩) (Kd.bR (p := ⟨gb241, 2, none⟩) (Kd.bR (p := ⟨gb241, 1, none⟩) (Kd.bR (p := ⟨gb241, 0, none⟩) (Kd.bu (Kd.aQ HO_4.1 (fun k_ hk => (⟨hk, hk.2⟩ : _ ∧ k_ ≠ gb241))) BK242.1 (by decide)) (fun _ hk => hk.1.2) (.int .i64 t234)) (fun _ hk => hk.1.2) (.string t235)) (fun _ hk => hk.1.2) (.int .i64 t236)) (fun _ hk => hk.1.2) (.int .i64 t237))) (fun _ hk => hk.1.1.2)))); (case aS => exact (bH (bl3_ HB.1 GE230.1 GE241.1 GE242.1))); (case aL => have := LMc7.1; omega); intro v244 w17 ho hb hg hat; rw [← Ny243.1] at ho; refine gm (bX (g := gb230) (o := .cells #[.int .i64 x231000_1, .int .i64 x231001_1] 40 (0, 0)) (by exact dC (eX (bk_ BK230.1) NB230_241.1) NB230_242.1) hg (Kd.R_ne HO_4.1 BK230.1 (by decide))) (bX (g := gb241) (o := .cells #[.int .i64 t234, .string t235, .int .i64 t236, .int .i64 t237] 50 (0, 0)) (by exact dC (dK (bk_ BK241.1)) NB241_242.1) hg (Kd.jQ HO_4.1 (fun _ hk => hk.2))) (bX (g := gb242) (o := .cells #[.int .i64 t239, .int .i64 t240] 40 (0, 0)) (by refine aU (cs := #[.int .i64 t239, .int .i64 0]) ?_ 1 _ rfl; refine aU (cs := #[.int .i64 0, .int .i64 0]) ?_ 0 _ rfl; exact eX (bk_ BK242.1) NB242_241.1) hg (Kd.R_ne HO_4.1 BK242.1 (by decide))) (hb) (ho) ?_; clear BK230 BK241 BK242 HB HO_4; intro BK230 BK241 BK242 HB HO245; clear ho hb hg hat; obtain ⟨hcz18_0, hcz18_1, hcz18_2, hcz18_3, hfz18_0, hfz18_1, hfz18_2, hfz18_3⟩ := cq4_ BK241.1; obtain ⟨hcz19_0, hcz19_1, hfz19_0, hfz19_1⟩ := cq2_ BK230.1))
  refine bodyPost_ret (eF rfl _ _ gb230 40 #[.int .i64 0, .int .i64 0] (0, 0) _ rfl (by exact gU (bk_ BK230.1)) Tryz.underlying40 rfl (by kernel_rfl)) rfl ?_; exact ⟨_, er_, rR_ (Kd.aQ (rf2_ gb230 (Kd.bu HO245.1 BK230.1 (by decide))) (fun _ hk => trivial)), bl3_ HB.1 GE230.1 GE241.1 GE242.1⟩
end Go.Proofs.YtkifdadhojbohaaGreatDoor.Pr
