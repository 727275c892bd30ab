/- Joined out of the texts of this proof that bear the names PrZ31 PrZ12 PrZ33 PrZ32 PrZ13 PrZ14 PrZ16 PrZ4 PzC PzD RowPrinterPrints: what each shows stands over it there. -/
import Derived.Test.YtkifdadhojbohaaGreatDoorZk1
import Derived.Test.YtkifdadhojbohaaGreatDoorZv1
import Derived.Test.YtkifdadhojbohaaGreatDoorZf2
import Derived.Test.YtkifdadhojbohaaGreatDoorZo1
import Derived.Test.YtkifdadhojbohaaGreatDoorZp1
import Derived.Test.YtkifdadhojbohaaGreatDoorZr1
import Derived.Test.YtkifdadhojbohaaGreatDoorCards
import Derived.Test.YtkifdadhojbohaaGreatDoorTie
import Derived.WalkKit
import Derived.OpenShut
import Derived.ShutString
import Derived.ChangeOld
import Derived.SizedLaws
import Derived.SevenTiedAt
import Derived.Handed
import Derived.LaidLaws
import Derived.Lib.SmallJoins
import Derived.Carry
set_option linter.unusedVariables false
set_option linter.unusedSimpArgs false
set_option maxHeartbeats 8000000
set_option maxRecDepth 100000
namespace Go.Proofs.YtkifdadhojbohaaGreatDoor.Pr
open Go.Proofs.YtkifdadhojbohaaGreatDoor
open Go.RowKit Go.Proofs.YtkifdadhojbohaaGreatDoorW.PrintWords Go.Proofs.YtkifdadhojbohaaGreatDoorW.PrintLast Go.Proofs.YtkifdadhojbohaaGreatDoorW.PrintMore
attribute [local go_sem] max2_int min2_int max_two min_two max_three min_three max_four min_four   -- for this text's walks alone
set_option linter.unusedVariables false
set_option linter.unusedSimpArgs false
mutual
def printer_lines.l0 : Nat → Int → List (S41) → Int → Int → Option (Int)
 | 0, _, _, _, _ => none
 | k + 1, x3, x6, x7, x8 => if x8 < x7 then (if 0 ≤ x8 then (if x8 < (x6.length : Int) then (if (rd_T41 x6 x8).f2 = true then ((printer_lines.f k ((rd_T41 x6 x8).f3)).bind fun t221 => (printer_lines.l0 k (wrap64 ((wrap64 (x3 + 1)) + (wrap64 (1 + t221)))) x6 x7 (wrap64 (x8 + 1)))) else (printer_lines.l0 k (wrap64 (x3 + 1)) x6 x7 (wrap64 (x8 + 1)))) else (none)) else (none)) else (some x3)
def printer_lines.f : Nat → List (S41) → Option (Int)
 | 0, _ => none
 | k + 1, l0 => printer_lines.l0 k 0 l0 (l0.length : Int) 0
end
theorem printer_lines.mono_l : ∀ k, (∀ y0, LeO (printer_lines.f k y0) (printer_lines.f (k + 1) y0)) ∧ (∀ y0 y1 y2 y3, LeO (printer_lines.l0 k y0 y1 y2 y3) (printer_lines.l0 (k + 1) y0 y1 y2 y3))
 | 0 => ⟨fun _ r h => by simp [printer_lines.f] at h, fun _ _ _ _ r h => by simp [printer_lines.l0] at h⟩
 | k + 1 => by
  obtain ⟨ih0, ih1⟩ := printer_lines.mono_l k
  refine ⟨?_, ?_⟩
  ·
   intro y0
   unfold printer_lines.f
   repeat' first
   | (with_reducible exact LeO.refl _)
   | exact ih0 _
   | exact ih1 _ _ _ _
   | exact LeO.none _
   | refine LeO.ite ?_ ?_
   | refine LeO.bind ?_ (fun _ => ?_)
  ·
   intro y0 y1 y2 y3
   unfold printer_lines.l0
   repeat' first
   | (with_reducible exact LeO.refl _)
   | exact ih0 _
   | exact ih1 _ _ _ _
   | exact LeO.none _
   | refine LeO.ite ?_ ?_
   | refine LeO.bind ?_ (fun _ => ?_)
theorem printer_lines.mono : ∀ a0 k, LeO (printer_lines.f k a0) (printer_lines.f (k + 1) a0) := by
 intro a0 k
 obtain ⟨ih0, ih1⟩ := printer_lines.mono_l k
 exact ih0 a0
theorem printer_lines.calls (k : Nat) : ∀ (A0 : Option Addr) (c0 : Nat) (l0 : List (S41)) (r : Int) (w : World) (hr0 : Kd.C k41 w A0 l0.length l0) (hc0 : l0.length ≤ c0) (h : printer_lines.f k l0 = some r),
  Calls Tryz.prog 31 #[.slice A0 l0.length c0] w fun e w' => e = .returned (.int .i64 r) ∧ Below w.heap.size w w' := by
 induction k using Nat.strongRecOn with
 | _ k ih =>
 intro A0 c0 l0 r w hr0 hc0 h
 cases k with
 | zero => exact absurd h (by simp [printer_lines.f])
 | succ k =>
 simp only [printer_lines.f] at h; have hu25 := Tryz.underlying25; have HR0 := Aside0.mk hr0; have HC0 := Aside0.mk hc0; clear hr0 hc0; have HB := Aside0.mk (Below.refl w.heap.size w); have H : (printer_lines.l0 k 0 l0 (l0.length : Int) 0) = some r := h; clear h; have H' := Aside0.mk H; clear H
 go_enter Tryz.func31, Tryz.ntmps31
 go_wp2
 go_loopg [3, 8] k (fun kq v3 v8 w' => ∃ (x3_1 : Int) (x8_1 : Int), v3 = .int .i64 x3_1 ∧ v8 = .int .i64 x8_1 ∧ Aside0 (printer_lines.l0 kq x3_1 l0 (l0.length : Int) x8_1 = some r) ∧ Aside0 (kq ≤ k) ∧ Aside0 (Below w.heap.size w w'))
 case atStart => exact ⟨(0), (0), sr_, sr_, H', ⟨Nat.le_refl _⟩, ⟨bl_ HB.out⟩⟩
 case round =>
  clear H'; obtain ⟨x3_1, x8_1, rfl, rfl, HA, HK1, HB⟩ := hrel; obtain _ | k1 := gk
  · exact absurd HA.out (by simp [printer_lines.l0])
  have H := HA.out; clear HA; simp only [printer_lines.l0] at H; replace H := (sd_ H).symm; obtain ⟨c2b0, H⟩ | ⟨c2b0, H⟩ := H
  ·
   obtain rfl := Option.some.inj H
   go_wp2
   go_ret
   exact ⟨er_, bl_ HB.out⟩
  replace H := gd_ H; obtain ⟨c3b0, H⟩ := H; replace H := gd_ H; obtain ⟨c4b0, H⟩ := H; obtain ⟨bq5, hbq5⟩ : ∃ b_ : Bool, b_ = ((rd_T41 l0 x8_1).f2) := ⟨_, rfl⟩; replace H : (if bq5 = true then ((printer_lines.f k1 ((rd_T41 l0 x8_1).f3)).bind fun t221 => (printer_lines.l0 k1 (wrap64 ((wrap64 (x3_1 + 1)) + (wrap64 (1 + t221)))) l0 (l0.length : Int) (wrap64 (x8_1 + 1)))) else (printer_lines.l0 k1 (wrap64 (x3_1 + 1)) l0 (l0.length : Int) (wrap64 (x8_1 + 1)))) = some r := by rw [← hbq5] at H; exact H
  have Nbq5 := Aside0.mk hbq5; clear hbq5; replace H := (sb_ H).symm; obtain ⟨rfl, H⟩ | ⟨rfl, H⟩ := H
  ·
   have H' := Aside0.mk H; clear H; have p219 : 0 ≤ (x8_1 : Int) := dt_; have q219 : x8_1 < (l0.length : Int) := dt_; obtain ⟨ad219, A219_1, c219_1, A219_3, c219_3, e219, hx219_0, hx219_1, hx219_2, hx219_3, hx219_4, hl219_1, hi219_1, hl219_3, hi219_3⟩ := at_T41 HR0.out x8_1 p219 q219; (try rw [← Nbq5.out] at hx219_2); cases e219; replace hx219_0 := pw_cell_below HB.out hx219_0; replace hx219_1 := pw_cell_below HB.out hx219_1; replace hx219_2 := pw_cell_below HB.out hx219_2; replace hx219_3 := pw_cell_below HB.out hx219_3; replace hx219_4 := pw_cell_below HB.out hx219_4; have HR219_1 := Aside0.mk hi219_1; have HC219_1 := Aside0.mk hl219_1; clear hi219_1 hl219_1; have HR219_3 := Aside0.mk hi219_3; have HC219_3 := Aside0.mk hl219_3; clear hi219_3 hl219_3; replace p219 := eq_true p219; replace q219 := eq_true q219
   go_wp2_with (first | ((with_reducible refine gate_dst (N := 5) rfl ?_); refine bx_ (N := 5) (cs := #[.string (⟨#[]⟩ : ByteArray), .slice none 0 0, .bool false, .slice none 0 0, .int .i64 0]) (t := 25) ?_; intro gb220 hg w11 hbox hb; refine cut4_ (below_step (bl_ HB.out) hb) (hbox) (bz_ (w := w) hg (bl_ HB.out)) (bz_ (w := w) hg (bl_ HB.out)) ?_; clear HB; intro HB BK220 GW220 GE220; clear hb hbox hg; obtain ⟨hcz12_0, hcz12_1, hcz12_2, hcz12_3, hcz12_4, hfz12_0, hfz12_1, hfz12_2, hfz12_3, hfz12_4⟩ := cq5_ BK220.out))
   go_roundg k1
   case measure => have := HK1.out; omega
   case rel => exact ⟨(wrap64 (x3_1 + 1)), (wrap64 (x8_1 + 1)), sr_, sr_, H', ⟨om_ HK1.out⟩, ⟨bl1_ HB.out GE220.out⟩⟩
  replace H := bn_ H; obtain ⟨t221, A7, H⟩ := H; (try dsimp only at H); have H' := Aside0.mk H; clear H; have p219 : 0 ≤ (x8_1 : Int) := dt_; have q219 : x8_1 < (l0.length : Int) := dt_; obtain ⟨ad219, A219_1, c219_1, A219_3, c219_3, e219, hx219_0, hx219_1, hx219_2, hx219_3, hx219_4, hl219_1, hi219_1, hl219_3, hi219_3⟩ := at_T41 HR0.out x8_1 p219 q219; (try rw [← Nbq5.out] at hx219_2); cases e219; replace hx219_0 := pw_cell_below HB.out hx219_0; replace hx219_1 := pw_cell_below HB.out hx219_1; replace hx219_2 := pw_cell_below HB.out hx219_2; replace hx219_3 := pw_cell_below HB.out hx219_3; replace hx219_4 := pw_cell_below HB.out hx219_4; have HR219_1 := Aside0.mk hi219_1; have HC219_1 := Aside0.mk hl219_1; clear hi219_1 hl219_1; have HR219_3 := Aside0.mk hi219_3; have HC219_3 := Aside0.mk hl219_3; clear hi219_3 hl219_3; replace p219 := eq_true p219; replace q219 := eq_true q219
  go_wp2_with (first | ((with_reducible refine gate_dst (N := 5) rfl ?_); refine bx_ (N := 5) (cs := #[.string (⟨#[]⟩ : ByteArray), .slice none 0 0, .bool false, .slice none 0 0, .int .i64 0]) (t := 25) ?_; intro gb220 hg w8 hbox hb; refine cut4_ (below_step (bl_ HB.out) hb) (hbox) (bz_ (w := w) hg (bl_ HB.out)) (bz_ (w := w) hg (bl_ HB.out)) ?_; clear HB; intro HB BK220 GW220 GE220; clear hb hbox hg; obtain ⟨hcz9_0, hcz9_1, hcz9_2, hcz9_3, hcz9_4, hfz9_0, hfz9_1, hfz9_2, hfz9_3, hfz9_4⟩ := cq5_ BK220.out) | ((with_reducible refine gate_callee (f := 31) rfl ?_); refine gk_ (some 19) Tryz.func31 (ih k1 (by have := HK1.out; omega) _ _ ((rd_T41 l0 x8_1).f3) t221 _ ?side1 ?side2 A7.out) ?_; (case side1 => exact Kd.C_below HR219_3.out (bl1_ HB.out GE220.out)); (case side2 => exact HC219_3.out); rintro e w10 ⟨rfl, hb⟩; refine ⟨_, rfl, ?_⟩; refine cut2_ (blk_below (g := gb220) (o := .cells #[.string ((rd_T41 l0 x8_1).f0), .slice A219_1 ((rd_T41 l0 x8_1).f1).length c219_1, .bool true, .slice A219_3 ((rd_T41 l0 x8_1).f3).length c219_3, .int .i64 ((rd_T41 l0 x8_1).f4)] 25 (0, 0)) (put5_ (bk_ BK220.out)) hb) (below_step (bl1_ HB.out GE220.out) hb) ?_; clear hb BK220 HB; intro BK220 HB))
  go_roundg k1
  case measure => have := HK1.out; omega
  case rel => exact ⟨(wrap64 ((wrap64 (x3_1 + 1)) + (wrap64 (1 + t221)))), (wrap64 (x8_1 + 1)), sr_, sr_, H', ⟨om_ HK1.out⟩, ⟨bl1_ HB.out GE220.out⟩⟩
def printer_Lines.f (k : Nat) (l0 : List (S41)) : Option (Int × Int) := (parser_Check.f k l0).bind fun t222 => (if t222 = 0 then ((printer_lines.f k l0).bind fun t223 => (some (t223, 0))) else (some (0, t222)))
theorem printer_Lines.mono : ∀ a0 k, LeO (printer_Lines.f k a0) (printer_Lines.f (k + 1) a0) := by
 intro a0 k
 unfold printer_Lines.f
 repeat' first
   | (with_reducible exact LeO.refl _)
   | exact parser_Check.mono _ _
   | exact printer_lines.mono _ _
   | exact LeO.none _
   | refine LeO.ite ?_ ?_
   | refine LeO.bind ?_ (fun _ => ?_)
theorem printer_Lines.calls (k : Nat) (A0 : Option Addr) (c0 : Nat) (l0 : List (S41)) (r1 : Int) (r2 : Int) (w : World) (hr0 : Kd.C k41 w A0 l0.length l0) (hc0 : l0.length ≤ c0) (h : printer_Lines.f k l0 = some (r1, r2)) :
  Calls Tryz.prog 12 #[.slice A0 l0.length c0] w fun e w' => e = .returned (.tuple #[.int .i64 r1, .int .i64 r2]) ∧ Below w.heap.size w w' := by
 have HR0 := Aside0.mk hr0; have HC0 := Aside0.mk hc0; clear hr0 hc0; have HB := Aside0.mk (Below.refl w.heap.size w); have H : ((parser_Check.f k l0).bind fun t222 => (if t222 = 0 then ((printer_lines.f k l0).bind fun t223 => (some (t223, 0))) else (some (0, t222)))) = some (r1, r2) := h; clear h; replace H := bn_ H; obtain ⟨t222, A2, H⟩ := H; (try dsimp only at H); replace H := (sp_ H).symm; obtain ⟨c3, H⟩ | ⟨c3, H⟩ := H
 ·
  have c3b0 := beq_eq_false_iff_ne.mpr c3; have c3b1 := bne_iff_ne.mpr c3; simp only [Option.some.injEq, Prod.mk.injEq] at H; obtain ⟨rfl, rfl⟩ := H
  go_enter Tryz.func12, Tryz.ntmps12
  go_wp2_with (first | ((with_reducible refine gate_callee (f := 22) rfl ?_); refine gk_ (some 6) Tryz.func22 (parser_Check.calls k _ _ l0 t222 _ ?side1 ?side2 A2.out) ?_; (case side1 => repeat (first | exact HR0.out | (with_reducible refine Kd.C_alloc ?_ _) | (with_reducible refine Kd.C_drewN ?_ _) | (with_reducible refine Kd.C_drew ?_))); (case side2 => exact HC0.out); rintro e w7 ⟨rfl, hb⟩; refine ⟨_, rfl, ?_⟩; refine cut1_ (below_step (bl_ HB.out) hb) ?_; clear hb HB; intro HB))
  go_ret2
  exact ⟨er_, bl_ HB.out⟩
 have c3b0 := beq_iff_eq.mpr c3; have c3b1 := bne_eq_false_iff_eq.mpr c3; clear c3; replace H := bn_ H; obtain ⟨t223, A4, H⟩ := H; (try dsimp only at H); simp only [Option.some.injEq, Prod.mk.injEq] at H; obtain ⟨rfl, rfl⟩ := H
 go_enter Tryz.func12, Tryz.ntmps12
 go_wp2_with (first | ((with_reducible refine gate_callee (f := 22) rfl ?_); refine gk_ (some 6) Tryz.func22 (parser_Check.calls k _ _ l0 t222 _ ?side1 ?side2 A2.out) ?_; (case side1 => repeat (first | exact HR0.out | (with_reducible refine Kd.C_alloc ?_ _) | (with_reducible refine Kd.C_drewN ?_ _) | (with_reducible refine Kd.C_drew ?_))); (case side2 => exact HC0.out); rintro e w5 ⟨rfl, hb⟩; refine ⟨_, rfl, ?_⟩; refine cut1_ (below_step (bl_ HB.out) hb) ?_; clear hb HB; intro HB) | ((with_reducible refine gate_callee (f := 31) rfl ?_); refine gk_ (some 11) Tryz.func31 (printer_lines.calls k _ _ l0 t223 _ ?side1 ?side2 A4.out) ?_; (case side1 => repeat (first | exact (Kd.C_below HR0.out HB.out) | (with_reducible refine Kd.C_alloc ?_ _) | (with_reducible refine Kd.C_drewN ?_ _) | (with_reducible refine Kd.C_drew ?_))); (case side2 => exact HC0.out); rintro e w6 ⟨rfl, hb⟩; refine ⟨_, rfl, ?_⟩; refine cut1_ (below_step (bl_ HB.out) hb) ?_; clear hb HB; intro HB))
 go_ret2
 exact ⟨er_, bl_ HB.out⟩
mutual
def salchowref11_lines.l0 : Nat → List (S41) → List ByteArray → Int → Option (List ByteArray)
 | 0, _, _, _ => none
 | k + 1, x0, x3, x4 => if x4 < (x0.length : Int) then (if 0 ≤ x4 then ((salchowref11_Line.f k ((rd_T41 x0 x4).f0) ((rd_T41 x0 x4).f1) ((rd_T41 x0 x4).f2) ((rd_T41 x0 x4).f3) ((rd_T41 x0 x4).f4)).bind fun t228 => (if x3.length < 8796093022208 then ((some (x3 ++ [t228] : List ByteArray)).bind fun y229 => (if ((rd_T41 x0 x4).f2 = true) then ((salchowref11_lines.f k ((rd_T41 x0 x4).f3)).bind fun t234 => (salchowref11_lines.l1 k x0 y229 x4 t234 0)) else (salchowref11_lines.l0 k x0 y229 (wrap64 (x4 + 1))))) else (none))) else (none)) else (some x3)
def salchowref11_lines.l1 : Nat → List (S41) → List ByteArray → Int → List ByteArray → Int → Option (List ByteArray)
 | 0, _, _, _, _, _ => none
 | k + 1, x0, x3, x4, x5, x6 => if x6 < (x5.length : Int) then (if 0 ≤ x6 then (if 2 + (rdOf ByteArray.empty x5 x6).size ≤ 9223372036854775807 then (if x3.length < 8796093022208 then (salchowref11_lines.l1 k x0 (x3 ++ [(⟨#[32, 32]⟩ : ByteArray) ++ (rdOf ByteArray.empty x5 x6)]) x4 x5 (wrap64 (x6 + 1))) else (none)) else (none)) else (none)) else (if x3.length < 8796093022208 then (salchowref11_lines.l0 k x0 (x3 ++ [(⟨#[125]⟩ : ByteArray)]) (wrap64 (x4 + 1))) else (none))
def salchowref11_lines.f : Nat → List (S41) → Option (List ByteArray)
 | 0, _ => none
 | k + 1, l0 => salchowref11_lines.l0 k l0 (([] : List ByteArray)) 0
end
theorem salchowref11_lines.mono_l : ∀ k, (∀ y0, LeO (salchowref11_lines.f k y0) (salchowref11_lines.f (k + 1) y0)) ∧ (∀ y0 y1 y2, LeO (salchowref11_lines.l0 k y0 y1 y2) (salchowref11_lines.l0 (k + 1) y0 y1 y2)) ∧ (∀ y0 y1 y2 y3 y4, LeO (salchowref11_lines.l1 k y0 y1 y2 y3 y4) (salchowref11_lines.l1 (k + 1) y0 y1 y2 y3 y4))
 | 0 => ⟨fun _ r h => by simp [salchowref11_lines.f] at h, fun _ _ _ r h => by simp [salchowref11_lines.l0] at h, fun _ _ _ _ _ r h => by simp [salchowref11_lines.l1] at h⟩
 | k + 1 => by
  obtain ⟨ih0, ih1, ih2⟩ := salchowref11_lines.mono_l k
  refine ⟨?_, ?_, ?_⟩
  ·
   intro y0
   unfold salchowref11_lines.f
   repeat' first
   | (with_reducible exact LeO.refl _)
   | exact ih0 _
   | exact ih1 _ _ _
   | exact ih2 _ _ _ _ _
   | exact salchowref11_Line.mono _ _ _ _ _ _
   | exact LeO.none _
   | refine LeO.ite ?_ ?_
   | refine LeO.bind ?_ (fun _ => ?_)
  ·
   intro y0 y1 y2
   unfold salchowref11_lines.l0
   repeat' first
   | (with_reducible exact LeO.refl _)
   | exact ih0 _
   | exact ih1 _ _ _
   | exact ih2 _ _ _ _ _
   | exact salchowref11_Line.mono _ _ _ _ _ _
   | exact LeO.none _
   | refine LeO.ite ?_ ?_
   | refine LeO.bind ?_ (fun _ => ?_)
  ·
   intro y0 y1 y2 y3 y4
   unfold salchowref11_lines.l1
   repeat' first
   | (with_reducible exact LeO.refl _)
   | exact ih0 _
   | exact ih1 _ _ _
   | exact ih2 _ _ _ _ _
   | exact salchowref11_Line.mono _ _ _ _ _ _
   | exact LeO.none _
   | refine LeO.ite ?_ ?_
   | refine LeO.bind ?_ (fun _ => ?_)
theorem salchowref11_lines.mono : ∀ a0 k, LeO (salchowref11_lines.f k a0) (salchowref11_lines.f (k + 1) a0) := by
 intro a0 k
 obtain ⟨ih0, ih1, ih2⟩ := salchowref11_lines.mono_l k
 exact ih0 a0
theorem salchowref11_lines.calls (k : Nat) : ∀ (A0 : Option Addr) (c0 : Nat) (l0 : List (S41)) (r : List ByteArray) (w : World) (hG : Gl w) (hr0 : Kd.C k41 w A0 l0.length l0) (hc0 : l0.length ≤ c0) (h : salchowref11_lines.f k l0 = some r),
  Calls Tryz.prog 33 #[.slice A0 l0.length c0] w fun e w' => ∃ v0_ : Value, e = .returned (v0_) ∧ Kd.R Kd.string 9 w' w.heap.size (fun _ => True) v0_ r ∧ Below w.heap.size w w' := by
 induction k using Nat.strongRecOn with
 | _ k ih =>
 intro A0 c0 l0 r w hG hr0 hc0 h
 cases k with
 | zero => exact absurd h (by simp [salchowref11_lines.f])
 | succ k =>
 simp only [salchowref11_lines.f] at h; have hu25 := Tryz.underlying25; have HR0 := Aside0.mk hr0; have HC0 := Aside0.mk hc0; clear hr0 hc0; have HB := Aside0.mk (Below.refl w.heap.size w); have H : (salchowref11_lines.l0 k l0 (([] : List ByteArray)) 0) = some r := h; clear h; obtain ⟨y224, hy224⟩ : ∃ y_ : List ByteArray, y_ = (([] : List ByteArray)) := ⟨_, rfl⟩; replace H : (salchowref11_lines.l0 k l0 y224 0) = some r := by first | (rw [hy224]; with_reducible exact H) | (have H2_ := (Option.bind_some _ _).symm.trans H; rw [hy224]; with_reducible exact H2_) | (have H2_ := (Option.bind_some _ _).symm.trans H; with_reducible exact H2_) | with_reducible exact H | (rw [hy224]; exact H) | exact H
 have Ny224 := Aside0.mk hy224; clear hy224; have H' := Aside0.mk H; clear H
 go_enter Tryz.func33, Tryz.ntmps33
 go_wp2_with (first | ((with_reducible refine gate_dst (N := 7) rfl ?_); refine Kd.R_lit Kd.string _ 9 ?hg (N := 7) ?hd (xs := ([] : List ByteArray)) (inner := []) (ok := fun _ => True) (okp := fun _ => True) ?hr ?hp (fun _ hk => hk) trivial (Below.refl _ _) (Nat.le_refl _) (by simp) ?_; (case hd => rfl); (case hg => rfl); (case hr => first | (go_simp; done) | (go_simp; rfl)); (case hp => exact (Reps.none _ _)); intro v225 w2 ho3 hb hg_ hnew_; clear hg_ hnew_; (first | rw [← Ny224.out] at ho3 | (simp only [Int.reduceToNat] at ho3; rw [← Ny224.out] at ho3)); refine cut2_ (Kd.R_lower ho3 (below_size (bl_ HB.out))) (below_step (bl_ HB.out) hb) ?_; clear HB; intro HO226 HB; clear hb ho3))
 go_loopg [3, 4] k (fun kq v3 v4 w' => ∃ (x3_1 : List ByteArray) (x4_1 : Int), v4 = .int .i64 x4_1 ∧ Aside0 (salchowref11_lines.l0 kq l0 x3_1 x4_1 = some r) ∧ Aside0 (kq ≤ k) ∧ Aside0 (Kd.R Kd.string 9 w' w.heap.size (fun _ => True) v3 x3_1) ∧ Aside0 (Below w.heap.size w w'))
 case atStart => exact ⟨(y224), (0), sr_, H', ⟨Nat.le_refl _⟩, ⟨rR_ HO226.out⟩, ⟨bl_ HB.out⟩⟩
 case round =>
  clear H'; obtain ⟨x3_1, x4_1, rfl, HA, HK1, HO_3, HB⟩ := hrel; obtain _ | k1 := gk
  · exact absurd HA.out (by simp [salchowref11_lines.l0])
  have H := HA.out; clear HA; simp only [salchowref11_lines.l0] at H; replace H := (sd_ H).symm; obtain ⟨c4b0, H⟩ | ⟨c4b0, H⟩ := H
  ·
   obtain rfl := Option.some.inj H
   go_wp2
   go_ret
   exact ⟨_, er_, rR_ HO_3.out, bl_ HB.out⟩
  replace H := gd_ H; obtain ⟨c5b0, H⟩ := H; replace H := bn_ H; obtain ⟨t228, A6, H⟩ := H; (try dsimp only at H); replace H := gp_ H; obtain ⟨c7, H⟩ := H; have LMc7 := Aside0.mk c7; clear c7; obtain ⟨y229, hy229⟩ : ∃ y_ : List ByteArray, y_ = (x3_1 ++ [t228]) := ⟨_, rfl⟩; replace H : (if ((rd_T41 l0 x4_1).f2 = true) then ((salchowref11_lines.f k1 ((rd_T41 l0 x4_1).f3)).bind fun t234 => (salchowref11_lines.l1 k1 l0 y229 x4_1 t234 0)) else (salchowref11_lines.l0 k1 l0 y229 (wrap64 (x4_1 + 1)))) = some r := by first | (rw [hy229]; with_reducible exact H) | (have H2_ := (Option.bind_some _ _).symm.trans H; rw [hy229]; with_reducible exact H2_) | (have H2_ := (Option.bind_some _ _).symm.trans H; with_reducible exact H2_) | with_reducible exact H | (rw [hy229]; exact H) | exact H
  have Ny229 := Aside0.mk hy229; clear hy229; obtain ⟨bq8, hbq8⟩ : ∃ b_ : Bool, b_ = ((rd_T41 l0 x4_1).f2) := ⟨_, rfl⟩; replace H : (if (bq8 = true) then ((salchowref11_lines.f k1 ((rd_T41 l0 x4_1).f3)).bind fun t234 => (salchowref11_lines.l1 k1 l0 y229 x4_1 t234 0)) else (salchowref11_lines.l0 k1 l0 y229 (wrap64 (x4_1 + 1)))) = some r := by rw [← hbq8] at H; exact H
  have Nbq8 := Aside0.mk hbq8; clear hbq8
  by_cases c9 : (bq8 = true)
  ·
   subst c9; have hA6_ := A6.out; rw [← Nbq8.out] at hA6_; replace A6 := Aside0.mk hA6_; clear hA6_; have H1 : ((salchowref11_lines.f k1 ((rd_T41 l0 x4_1).f3)).bind fun t234 => (salchowref11_lines.l1 k1 l0 y229 x4_1 t234 0)) = some r := by rw [if_pos rfl] at H; exact H
   clear H; have H := H1; clear H1; replace H := bn_ H; obtain ⟨t234, A10, H⟩ := H; (try dsimp only at H); have H' := Aside0.mk H; clear H; have p227 : 0 ≤ (x4_1 : Int) := dt_; have q227 : x4_1 < (l0.length : Int) := dt_; obtain ⟨ad227, A227_1, c227_1, A227_3, c227_3, e227, hx227_0, hx227_1, hx227_2, hx227_3, hx227_4, hl227_1, hi227_1, hl227_3, hi227_3⟩ := at_T41 HR0.out x4_1 p227 q227; (try rw [← Nbq8.out] at hx227_2); cases e227; replace hx227_0 := pw_cell_below HB.out hx227_0; replace hx227_1 := pw_cell_below HB.out hx227_1; replace hx227_2 := pw_cell_below HB.out hx227_2; replace hx227_3 := pw_cell_below HB.out hx227_3; replace hx227_4 := pw_cell_below HB.out hx227_4; have HR227_1 := Aside0.mk hi227_1; have HC227_1 := Aside0.mk hl227_1; clear hi227_1 hl227_1; have HR227_3 := Aside0.mk hi227_3; have HC227_3 := Aside0.mk hl227_3; clear hi227_3 hl227_3; replace p227 := eq_true p227; replace q227 := eq_true q227
   go_wp2_with (first | ((with_reducible refine gate_callee (f := 10) rfl ?_); refine gk_ (some 19) Tryz.func10 (salchowref11_Line.calls k1 ((rd_T41 l0 x4_1).f0) _ _ ((rd_T41 l0 x4_1).f1) true _ _ ((rd_T41 l0 x4_1).f3) ((rd_T41 l0 x4_1).f4) t228 _ ?side1 ?side2 ?side3 ?side4 ?side5 A6.out) ?_; (case side1 => exact Gl.below hG (bl_ HB.out)); (case side2 => repeat (first | exact (Kd.C_below HR227_1.out HB.out) | (with_reducible refine Kd.C_alloc ?_ _) | (with_reducible refine Kd.C_drewN ?_ _) | (with_reducible refine Kd.C_drew ?_))); (case side3 => exact HC227_1.out); (case side4 => repeat (first | exact (Kd.C_below HR227_3.out HB.out) | (with_reducible refine Kd.C_alloc ?_ _) | (with_reducible refine Kd.C_drewN ?_ _) | (with_reducible refine Kd.C_drew ?_))); (case side5 => exact HC227_3.out); rintro e w11 ⟨rfl, hb⟩; refine ⟨_, rfl, ?_⟩; refine cut2_ (Kd.R_below (rR_ HO_3.out) hb) (below_step (bl_ HB.out) hb) ?_; clear hb HO_3 HB; intro HO_3 HB) | ((with_reducible refine gate_builtin (b := .append) (xs := #[.tmp 14, .tmp 20]) rfl ?_); at_builtin; refine Kd.R_append Kd.string (w0 := w) w.heap.size rfl (.tmp 14) (.tmp 20) 60 9 (.string ⟨#[]⟩) 16 rfl Tryz.underlying60 info9 rfl (by decide) (by omega) u3 x3_1 t228 [.string t228] (fun _ => True) (fun _ => False) rfl rfl ?aP (fun _ hk => hk.elim) ?aF ?aO ?aB ?aS ?aL ?_; (case aP => exact rfl); (case aB => exact (bl_ HB.out)); (case aF => exact (fun _ _ => trivial)); (case aO => exact (rR_ HO_3.out)); (case aS => exact (below_size (bl_ HB.out))); (case aL => have := LMc7.out; omega); intro v230 w12 ho hb hg hat; rw [← Ny229.out] at ho; refine cut2_ (hb) (ho) ?_; clear HB HO_3; intro HB HO231; clear ho hb hg hat; have p232 : 0 ≤ (x4_1 : Int) := dt_; have q232 : x4_1 < (l0.length : Int) := dt_; obtain ⟨ad232, A232_1, c232_1, A232_3, c232_3, e232, hx232_0, hx232_1, hx232_2, hx232_3, hx232_4, hl232_1, hi232_1, hl232_3, hi232_3⟩ := at_T41 HR0.out x4_1 p232 q232; (try rw [← Nbq8.out] at hx232_2); obtain rfl : ad227 = ad232 := (by injection e232); replace hx232_0 := pw_cell_below HB.out hx232_0; replace hx232_1 := pw_cell_below HB.out hx232_1; replace hx232_2 := pw_cell_below HB.out hx232_2; replace hx232_3 := pw_cell_below HB.out hx232_3; replace hx232_4 := pw_cell_below HB.out hx232_4; have HR232_1 := Aside0.mk hi232_1; have HC232_1 := Aside0.mk hl232_1; clear hi232_1 hl232_1; have HR232_3 := Aside0.mk hi232_3; have HC232_3 := Aside0.mk hl232_3; clear hi232_3 hl232_3; replace p232 := eq_true p232; replace q232 := eq_true q232; have p233 : 0 ≤ (x4_1 : Int) := dt_; have q233 : x4_1 < (l0.length : Int) := dt_; obtain ⟨ad233, A233_1, c233_1, A233_3, c233_3, e233, hx233_0, hx233_1, hx233_2, hx233_3, hx233_4, hl233_1, hi233_1, hl233_3, hi233_3⟩ := at_T41 HR0.out x4_1 p233 q233; (try rw [← Nbq8.out] at hx233_2); obtain rfl : ad227 = ad233 := (by injection e233); replace hx233_0 := pw_cell_below HB.out hx233_0; replace hx233_1 := pw_cell_below HB.out hx233_1; replace hx233_2 := pw_cell_below HB.out hx233_2; replace hx233_3 := pw_cell_below HB.out hx233_3; replace hx233_4 := pw_cell_below HB.out hx233_4; have HR233_1 := Aside0.mk hi233_1; have HC233_1 := Aside0.mk hl233_1; clear hi233_1 hl233_1; have HR233_3 := Aside0.mk hi233_3; have HC233_3 := Aside0.mk hl233_3; clear hi233_3 hl233_3; replace p233 := eq_true p233; replace q233 := eq_true q233; have ea_ := Option.some.inj (hx232_1.symm.trans hx233_1); injection ea_ with ea_ en_ ec_; subst ea_; subst ec_; clear en_; have ea_ := Option.some.inj (hx232_3.symm.trans hx233_3); injection ea_ with ea_ en_ ec_; subst ea_; subst ec_; clear en_) | ((with_reducible refine gate_callee (f := 33) rfl ?_); refine gk_ (some 33) Tryz.func33 (ih k1 (by have := HK1.out; omega) _ _ ((rd_T41 l0 x4_1).f3) t234 _ ?side1 ?side2 ?side3 A10.out) ?_; (case side1 => exact Gl.below hG (bl_ HB.out)); (case side2 => repeat (first | exact (Kd.C_below HR233_3.out HB.out) | (with_reducible refine Kd.C_alloc ?_ _) | (with_reducible refine Kd.C_drewN ?_ _) | (with_reducible refine Kd.C_drew ?_))); (case side3 => exact HC233_3.out); rintro e w13 ⟨v235, rfl, ho0, hb⟩; refine ⟨_, rfl, ?_⟩; refine cut3_ (Kd.R_elder' (rR_ HO231.out) (Kd.R_base ho0) hb) (Kd.R_lower (Kd.R_new' ho0 (Kd.R_lt (rR_ HO231.out))) (below_size (bl_ HB.out))) (below_step (bl_ HB.out) hb) ?_; clear hb HO231 HB; intro HO231 HO236 HB; (try clear ho0)))
   go_loopg [3, 6] k1 (fun kq v3 v6 w' => ∃ (x3_2 : List ByteArray) (x6_2 : Int), v6 = .int .i64 x6_2 ∧ Aside0 (salchowref11_lines.l1 kq l0 x3_2 x4_1 t234 x6_2 = some r) ∧ Aside0 (kq ≤ k1) ∧ Aside0 (Kd.R Kd.string 9 w' w.heap.size (fun k_ => some k_ ≠ (v235 : Value).ownBlock) v3 x3_2) ∧ Aside0 (Kd.R Kd.string 9 w' w.heap.size (fun k_ => some k_ ≠ (v3 : Value).ownBlock) v235 t234) ∧ Aside0 (Below w.heap.size w w'))
   case atStart => exact ⟨(y229), (0), sr_, H', ⟨Nat.le_refl _⟩, ⟨rR_ (Kd.R_mono HO231.out (fun _ hk => hk.2))⟩, ⟨rR_ (Kd.R_mono HO236.out (fun _ hk => hk.2))⟩, ⟨bl_ HB.out⟩⟩
   case round =>
    clear H'; (try clear c4); (try clear c4b0); (try clear c5); (try clear c5b0); (try clear c7); (try clear c9); (try clear hx227_0); (try clear hx227_1); (try clear hx227_2); (try clear hx227_3); (try clear hx227_4); (try clear hx232_0); (try clear hx232_1); (try clear hx232_2); (try clear hx232_3); (try clear hx232_4); (try clear hx233_0); (try clear hx233_1); (try clear hx233_2); (try clear hx233_3); (try clear hx233_4); (try clear p227); (try clear p232); (try clear p233); (try clear q227); (try clear q232); (try clear q233); obtain ⟨x3_2, x6_2, rfl, HA, HK2, HO_3, HO_5, HB⟩ := hrel; obtain _ | k2 := gk
    · exact absurd HA.out (by simp [salchowref11_lines.l1])
    have H := HA.out; clear HA; simp only [salchowref11_lines.l1] at H; replace H := (sd_ H).symm; obtain ⟨c14b0, H⟩ | ⟨c14b0, H⟩ := H
    ·
     replace H := gp_ H; obtain ⟨c20, H⟩ := H; have LMc20 := Aside0.mk c20; clear c20; obtain ⟨y241, hy241⟩ : ∃ y_ : List ByteArray, y_ = (x3_2 ++ [(⟨#[125]⟩ : ByteArray)]) := ⟨_, rfl⟩; replace H : (salchowref11_lines.l0 k2 l0 y241 (wrap64 (x4_1 + 1))) = some r := by first | (rw [hy241]; with_reducible exact H) | (have H2_ := (Option.bind_some _ _).symm.trans H; rw [hy241]; with_reducible exact H2_) | (have H2_ := (Option.bind_some _ _).symm.trans H; with_reducible exact H2_) | with_reducible exact H | (rw [hy241]; exact H) | exact H
     have Ny241 := Aside0.mk hy241; clear hy241; have H' := Aside0.mk H; clear H; obtain ⟨Ao21, co21, eo21⟩ := Kd.R_slice HO_5.out; subst eo21
     go_wp2_with (first | ((with_reducible refine gate_builtin (b := .append) (xs := #[.tmp 48, .tmp 49]) rfl ?_); at_builtin; refine Kd.R_append Kd.string (w0 := w) w.heap.size rfl (.tmp 48) (.tmp 49) 60 9 (.string ⟨#[]⟩) 16 rfl Tryz.underlying60 info9 rfl (by decide) (by omega) u3 x3_2 (⟨#[125]⟩ : ByteArray) [.string (⟨#[125]⟩ : ByteArray)] (fun k_ => some k_ ≠ (.slice Ao21 t234.length co21 : Value).ownBlock) (fun _ => False) rfl rfl ?aP (fun _ hk => hk.elim) ?aF ?aO ?aB ?aS ?aL ?_; (case aP => exact rfl); (case aB => exact (bl_ HB.out)); (case aF => exact (fun k_ hk => Kd.fresh' (Kd.R_lt (rR_ HO_5.out)) k_ hk)); (case aO => exact (rR_ HO_3.out)); (case aS => exact (below_size (bl_ HB.out))); (case aL => have := LMc20.out; omega); intro v242 w22 ho hb hg hat; rw [← Ny241.out] at ho; refine cut3_ (Kd.R_after (ok := (fun _ => True)) (by (with_reducible repeat (first | apply Kd.R_alloc | apply Kd.R_drewN | apply Kd.R_drew)); exact Kd.R_mono HO_5.out (fun _ hk => ⟨trivial, hk⟩)) hg hat) (hb) (ho) ?_; clear HO_5 HB HO_3; intro HO_5 HB HO243; clear ho hb hg hat))
     go_roundg k2
     case measure => have := HK1.out; have := HK2.out; omega
     case rel => exact ⟨(y241), (wrap64 (x4_1 + 1)), sr_, H', ⟨by have := HK1.out; have := HK2.out; omega⟩, ⟨rR_ (Kd.R_mono HO243.out (fun _ hk => trivial))⟩, ⟨bl_ HB.out⟩⟩
    replace H := gd_ H; obtain ⟨c15b0, H⟩ := H; replace H := gp_ H; obtain ⟨c16, H⟩ := H; have c16b0 := eq_true c16; have c16b1 := decide_eq_true c16
    try have c16b2 : (9223372036854775807 < 2 + (rdOf ByteArray.empty t234 x6_2).size) = False := eq_false (Nat.not_lt.2 c16)
    replace H := gp_ H; obtain ⟨c17, H⟩ := H; have LMc17 := Aside0.mk c17; clear c17; obtain ⟨y238, hy238⟩ : ∃ y_ : List ByteArray, y_ = (x3_2 ++ [(⟨#[32, 32]⟩ : ByteArray) ++ (rdOf ByteArray.empty t234 x6_2)]) := ⟨_, rfl⟩; replace H : (salchowref11_lines.l1 k2 l0 y238 x4_1 t234 (wrap64 (x6_2 + 1))) = some r := by first | (rw [hy238]; with_reducible exact H) | (have H2_ := (Option.bind_some _ _).symm.trans H; rw [hy238]; with_reducible exact H2_) | (have H2_ := (Option.bind_some _ _).symm.trans H; with_reducible exact H2_) | with_reducible exact H | (rw [hy238]; exact H) | exact H
    have Ny238 := Aside0.mk hy238; clear hy238; have H' := Aside0.mk H; clear H; obtain ⟨Ao18, co18, eo18⟩ := Kd.R_slice HO_5.out; subst eo18; have p237 : 0 ≤ (x6_2 : Int) := dt_; have q237 : x6_2 < (t234.length : Int) := dt_; obtain ⟨ad237, e237, hx237_0⟩ := Kd.at_string (Kd.R_reads' HO_5.out).2.2 x6_2 p237 q237; cases e237; replace p237 := eq_true p237; replace q237 := eq_true q237
    go_wp2_with (first | ((with_reducible refine gate_builtin (b := .append) (xs := #[.tmp 40, .tmp 46]) rfl ?_); at_builtin; refine Kd.R_append Kd.string (w0 := w) w.heap.size rfl (.tmp 40) (.tmp 46) 60 9 (.string ⟨#[]⟩) 16 rfl Tryz.underlying60 info9 rfl (by decide) (by omega) u3 x3_2 ((⟨#[32, 32]⟩ : ByteArray) ++ (rdOf ByteArray.empty t234 x6_2)) [.string ((⟨#[32, 32]⟩ : ByteArray) ++ (rdOf ByteArray.empty t234 x6_2))] (fun k_ => some k_ ≠ (.slice (some ad237) t234.length co18 : Value).ownBlock) (fun _ => False) rfl rfl ?aP (fun _ hk => hk.elim) ?aF ?aO ?aB ?aS ?aL ?_; (case aP => exact rfl); (case aB => exact (bl_ HB.out)); (case aF => exact (fun k_ hk => Kd.fresh' (Kd.R_lt (rR_ HO_5.out)) k_ hk)); (case aO => exact (rR_ HO_3.out)); (case aS => exact (below_size (bl_ HB.out))); (case aL => have := LMc17.out; omega); intro v239 w19 ho hb hg hat; rw [← Ny238.out] at ho; refine cut3_ (Kd.R_after (ok := (fun _ => True)) (by (with_reducible repeat (first | apply Kd.R_alloc | apply Kd.R_drewN | apply Kd.R_drew)); exact Kd.R_mono HO_5.out (fun _ hk => ⟨trivial, hk⟩)) hg hat) (hb) (ho) ?_; clear HO_5 HB HO_3; intro HO_5 HB HO240; clear ho hb hg hat))
    go_roundg k2
    case measure => have := HK1.out; have := HK2.out; omega
    case rel => exact ⟨(y238), (wrap64 (x6_2 + 1)), sr_, H', ⟨by have := HK1.out; have := HK2.out; omega⟩, ⟨rR_ HO240.out⟩, ⟨rR_ (Kd.R_mono HO_5.out (fun _ hk => hk.2))⟩, ⟨bl_ HB.out⟩⟩
  replace c9 := Bool.eq_false_iff.mpr c9; subst c9; have hA6_ := A6.out; rw [← Nbq8.out] at hA6_; replace A6 := Aside0.mk hA6_; clear hA6_; have H1 : (salchowref11_lines.l0 k1 l0 y229 (wrap64 (x4_1 + 1))) = some r := by rw [if_neg (show ¬ (false = true) by decide)] at H; exact H
  clear H; have H := H1; clear H1; have H' := Aside0.mk H; clear H; have p227 : 0 ≤ (x4_1 : Int) := dt_; have q227 : x4_1 < (l0.length : Int) := dt_; obtain ⟨ad227, A227_1, c227_1, A227_3, c227_3, e227, hx227_0, hx227_1, hx227_2, hx227_3, hx227_4, hl227_1, hi227_1, hl227_3, hi227_3⟩ := at_T41 HR0.out x4_1 p227 q227; (try rw [← Nbq8.out] at hx227_2); cases e227; replace hx227_0 := pw_cell_below HB.out hx227_0; replace hx227_1 := pw_cell_below HB.out hx227_1; replace hx227_2 := pw_cell_below HB.out hx227_2; replace hx227_3 := pw_cell_below HB.out hx227_3; replace hx227_4 := pw_cell_below HB.out hx227_4; have HR227_1 := Aside0.mk hi227_1; have HC227_1 := Aside0.mk hl227_1; clear hi227_1 hl227_1; have HR227_3 := Aside0.mk hi227_3; have HC227_3 := Aside0.mk hl227_3; clear hi227_3 hl227_3; replace p227 := eq_true p227; replace q227 := eq_true q227
  go_wp2_with (first | ((with_reducible refine gate_callee (f := 10) rfl ?_); refine gk_ (some 19) Tryz.func10 (salchowref11_Line.calls k1 ((rd_T41 l0 x4_1).f0) _ _ ((rd_T41 l0 x4_1).f1) false _ _ ((rd_T41 l0 x4_1).f3) ((rd_T41 l0 x4_1).f4) t228 _ ?side1 ?side2 ?side3 ?side4 ?side5 A6.out) ?_; (case side1 => exact Gl.below hG (bl_ HB.out)); (case side2 => repeat (first | exact (Kd.C_below HR227_1.out HB.out) | (with_reducible refine Kd.C_alloc ?_ _) | (with_reducible refine Kd.C_drewN ?_ _) | (with_reducible refine Kd.C_drew ?_))); (case side3 => exact HC227_1.out); (case side4 => repeat (first | exact (Kd.C_below HR227_3.out HB.out) | (with_reducible refine Kd.C_alloc ?_ _) | (with_reducible refine Kd.C_drewN ?_ _) | (with_reducible refine Kd.C_drew ?_))); (case side5 => exact HC227_3.out); rintro e w23 ⟨rfl, hb⟩; refine ⟨_, rfl, ?_⟩; refine cut2_ (Kd.R_below (rR_ HO_3.out) hb) (below_step (bl_ HB.out) hb) ?_; clear hb HO_3 HB; intro HO_3 HB) | ((with_reducible refine gate_builtin (b := .append) (xs := #[.tmp 14, .tmp 20]) rfl ?_); at_builtin; refine Kd.R_append Kd.string (w0 := w) w.heap.size rfl (.tmp 14) (.tmp 20) 60 9 (.string ⟨#[]⟩) 16 rfl Tryz.underlying60 info9 rfl (by decide) (by omega) u3 x3_1 t228 [.string t228] (fun _ => True) (fun _ => False) rfl rfl ?aP (fun _ hk => hk.elim) ?aF ?aO ?aB ?aS ?aL ?_; (case aP => exact rfl); (case aB => exact (bl_ HB.out)); (case aF => exact (fun _ _ => trivial)); (case aO => exact (rR_ HO_3.out)); (case aS => exact (below_size (bl_ HB.out))); (case aL => have := LMc7.out; omega); intro v230 w24 ho hb hg hat; rw [← Ny229.out] at ho; refine cut2_ (hb) (ho) ?_; clear HB HO_3; intro HB HO231; clear ho hb hg hat; have p232 : 0 ≤ (x4_1 : Int) := dt_; have q232 : x4_1 < (l0.length : Int) := dt_; obtain ⟨ad232, A232_1, c232_1, A232_3, c232_3, e232, hx232_0, hx232_1, hx232_2, hx232_3, hx232_4, hl232_1, hi232_1, hl232_3, hi232_3⟩ := at_T41 HR0.out x4_1 p232 q232; (try rw [← Nbq8.out] at hx232_2); obtain rfl : ad227 = ad232 := (by injection e232); replace hx232_0 := pw_cell_below HB.out hx232_0; replace hx232_1 := pw_cell_below HB.out hx232_1; replace hx232_2 := pw_cell_below HB.out hx232_2; replace hx232_3 := pw_cell_below HB.out hx232_3; replace hx232_4 := pw_cell_below HB.out hx232_4; have HR232_1 := Aside0.mk hi232_1; have HC232_1 := Aside0.mk hl232_1; clear hi232_1 hl232_1; have HR232_3 := Aside0.mk hi232_3; have HC232_3 := Aside0.mk hl232_3; clear hi232_3 hl232_3; replace p232 := eq_true p232; replace q232 := eq_true q232))
  go_roundg k1
  case measure => have := HK1.out; omega
  case rel => exact ⟨(y229), (wrap64 (x4_1 + 1)), sr_, H', ⟨om_ HK1.out⟩, ⟨rR_ HO231.out⟩, ⟨bl_ HB.out⟩⟩
def salchowref11_Source.l0 : Nat → ByteArray → List ByteArray → Int → Option (ByteArray)
 | 0, _, _, _ => none
 | k + 1, x3, x4, x5 => if x5 < (x4.length : Int) then (if 0 ≤ x5 then (if (rdOf ByteArray.empty x4 x5).size + 1 ≤ 9223372036854775807 then (if x3.size + ((rdOf ByteArray.empty x4 x5) ++ (⟨#[10]⟩ : ByteArray)).size ≤ 9223372036854775807 then (salchowref11_Source.l0 k (x3 ++ ((rdOf ByteArray.empty x4 x5) ++ (⟨#[10]⟩ : ByteArray))) x4 (wrap64 (x5 + 1))) else (none)) else (none)) else (none)) else (some x3)
def salchowref11_Source.f (k : Nat) (l0 : List (S41)) : Option (ByteArray) := (salchowref11_lines.f k l0).bind fun t244 => (salchowref11_Source.l0 k (⟨#[]⟩ : ByteArray) t244 0)
theorem salchowref11_Source.mono_l : ∀ k, (∀ y0 y1 y2, LeO (salchowref11_Source.l0 k y0 y1 y2) (salchowref11_Source.l0 (k + 1) y0 y1 y2))
 | 0 => fun _ _ _ r h => by simp [salchowref11_Source.l0] at h
 | k + 1 => by
  have ih0 := salchowref11_Source.mono_l k
  ·
   intro y0 y1 y2
   unfold salchowref11_Source.l0
   repeat' first
   | (with_reducible exact LeO.refl _)
   | exact ih0 _ _ _
   | exact salchowref11_lines.mono _ _
   | exact LeO.none _
   | refine LeO.ite ?_ ?_
   | refine LeO.bind ?_ (fun _ => ?_)
theorem salchowref11_Source.mono : ∀ a0 k, LeO (salchowref11_Source.f k a0) (salchowref11_Source.f (k + 1) a0) := by
 intro a0 k
 have ih0 := salchowref11_Source.mono_l k
 unfold salchowref11_Source.f
 repeat' first
   | (with_reducible exact LeO.refl _)
   | exact ih0 _ _ _
   | exact salchowref11_lines.mono _ _
   | exact LeO.none _
   | refine LeO.ite ?_ ?_
   | refine LeO.bind ?_ (fun _ => ?_)
theorem salchowref11_Source.calls (k : Nat) (A0 : Option Addr) (c0 : Nat) (l0 : List (S41)) (r : ByteArray) (w : World) (hG : Gl w) (hr0 : Kd.C k41 w A0 l0.length l0) (hc0 : l0.length ≤ c0) (h : salchowref11_Source.f k l0 = some r) :
  Calls Tryz.prog 32 #[.slice A0 l0.length c0] w fun e w' => e = .returned (.string r) ∧ Below w.heap.size w w' := by
 have HR0 := Aside0.mk hr0; have HC0 := Aside0.mk hc0; clear hr0 hc0; have HB := Aside0.mk (Below.refl w.heap.size w); have H : ((salchowref11_lines.f k l0).bind fun t244 => (salchowref11_Source.l0 k (⟨#[]⟩ : ByteArray) t244 0)) = some r := h; clear h; replace H := bn_ H; obtain ⟨t244, A2, H⟩ := H; (try dsimp only at H); have H' := Aside0.mk H; clear H
 go_enter Tryz.func32, Tryz.ntmps32
 go_wp2_with (first | ((with_reducible refine gate_callee (f := 33) rfl ?_); refine gk_ (some 7) Tryz.func33 (salchowref11_lines.calls k _ _ l0 t244 _ ?side1 ?side2 ?side3 A2.out) ?_; (case side1 => exact Gl.below hG (bl_ HB.out)); (case side2 => repeat (first | exact HR0.out | (with_reducible refine Kd.C_alloc ?_ _) | (with_reducible refine Kd.C_drewN ?_ _) | (with_reducible refine Kd.C_drew ?_))); (case side3 => exact HC0.out); rintro e w3 ⟨v245, rfl, ho0, hb⟩; refine ⟨_, rfl, ?_⟩; refine cut2_ (Kd.R_lower ho0 (below_size (bl_ HB.out))) (below_step (bl_ HB.out) hb) ?_; clear hb HB; intro HO246 HB; (try clear ho0)))
 go_loopg [3, 5] k (fun kq v3 v5 w' => ∃ (x3_1 : ByteArray) (x5_1 : Int), v3 = .string x3_1 ∧ v5 = .int .i64 x5_1 ∧ Aside0 (salchowref11_Source.l0 kq x3_1 t244 x5_1 = some r) ∧ Aside0 (kq ≤ k) ∧ Aside0 (Kd.R Kd.string 9 w' w.heap.size (fun _ => True) v245 t244) ∧ Aside0 (Below w.heap.size w w'))
 case atStart => exact ⟨((⟨#[]⟩ : ByteArray)), (0), sr_, sr_, H', ⟨Nat.le_refl _⟩, ⟨rR_ HO246.out⟩, ⟨bl_ HB.out⟩⟩
 case round =>
  clear H'; obtain ⟨x3_1, x5_1, rfl, rfl, HA, HK1, HO_4, HB⟩ := hrel; obtain _ | k1 := gk
  · exact absurd HA.out (by simp [salchowref11_Source.l0])
  have H := HA.out; clear HA; simp only [salchowref11_Source.l0] at H; replace H := (sd_ H).symm; obtain ⟨c4b0, H⟩ | ⟨c4b0, H⟩ := H
  ·
   obtain rfl := Option.some.inj H; obtain ⟨Ao9, co9, eo9⟩ := Kd.R_slice HO_4.out; subst eo9
   go_wp2
   go_ret
   exact ⟨er_, bl_ HB.out⟩
  replace H := gd_ H; obtain ⟨c5b0, H⟩ := H; replace H := gp_ H; obtain ⟨c6, H⟩ := H; have c6b0 := eq_true c6; have c6b1 := decide_eq_true c6
  try have c6b2 : (9223372036854775807 < (rdOf ByteArray.empty t244 x5_1).size + 1) = False := eq_false (Nat.not_lt.2 c6)
  replace H := gp_ H; obtain ⟨c7, H⟩ := H; have c7b0 := eq_true c7; have c7b1 := decide_eq_true c7; (try (have c7b3 : (9223372036854775807 < x3_1.size + (rdOf ByteArray.empty t244 x5_1).size + 1) = False := eq_false (Nat.not_lt.2 (by have h_ := c7; simp only [ByteArray.size_append] at h_; exact h_)))); (try (have c7b4 : (x3_1.size + (rdOf ByteArray.empty t244 x5_1).size + 1 ≤ 9223372036854775807) = True := eq_true (by have h_ := c7; simp only [ByteArray.size_append] at h_; exact h_)))
  try have c7b2 : (9223372036854775807 < x3_1.size + ((rdOf ByteArray.empty t244 x5_1) ++ (⟨#[10]⟩ : ByteArray)).size) = False := eq_false (Nat.not_lt.2 c7)
  have H' := Aside0.mk H; clear H; obtain ⟨Ao8, co8, eo8⟩ := Kd.R_slice HO_4.out; subst eo8; have p247 : 0 ≤ (x5_1 : Int) := dt_; have q247 : x5_1 < (t244.length : Int) := dt_; obtain ⟨ad247, e247, hx247_0⟩ := Kd.at_string (Kd.R_reads' HO_4.out).2.2 x5_1 p247 q247; cases e247; replace p247 := eq_true p247; replace q247 := eq_true q247
  go_wp2
  go_roundg k1
  case measure => have := HK1.out; omega
  case rel => exact ⟨(x3_1 ++ ((rdOf ByteArray.empty t244 x5_1) ++ (⟨#[10]⟩ : ByteArray))), (wrap64 (x5_1 + 1)), sr_, sr_, H', ⟨om_ HK1.out⟩, ⟨rR_ HO_4.out⟩, ⟨bl_ HB.out⟩⟩
def salchowref11_Print.f (k : Nat) (l0 : List (S41)) : Option (ByteArray × Int) := (salchowref10_Check.f k l0).bind fun t248 => (if t248 = 0 then ((salchowref11_Source.f k l0).bind fun t249 => (if (t249.size : Int) > 65536 then (some ((⟨#[]⟩ : ByteArray), 6)) else (some (t249, 0)))) else (some ((⟨#[]⟩ : ByteArray), t248)))
theorem salchowref11_Print.mono : ∀ a0 k, LeO (salchowref11_Print.f k a0) (salchowref11_Print.f (k + 1) a0) := by
 intro a0 k
 unfold salchowref11_Print.f
 repeat' first
   | (with_reducible exact LeO.refl _)
   | exact salchowref10_Check.mono _ _
   | exact salchowref11_Source.mono _ _
   | exact LeO.none _
   | refine LeO.ite ?_ ?_
   | refine LeO.bind ?_ (fun _ => ?_)
theorem salchowref11_Print.calls (k : Nat) (A0 : Option Addr) (c0 : Nat) (l0 : List (S41)) (r1 : ByteArray) (r2 : Int) (w : World) (hG : Gl w) (hr0 : Kd.C k41 w A0 l0.length l0) (hc0 : l0.length ≤ c0) (h : salchowref11_Print.f k l0 = some (r1, r2)) :
  Calls Tryz.prog 13 #[.slice A0 l0.length c0] w fun e w' => e = .returned (.tuple #[.string r1, .int .i64 r2]) ∧ Below w.heap.size w w' := by
 have HR0 := Aside0.mk hr0; have HC0 := Aside0.mk hc0; clear hr0 hc0; have HB := Aside0.mk (Below.refl w.heap.size w); have H : ((salchowref10_Check.f k l0).bind fun t248 => (if t248 = 0 then ((salchowref11_Source.f k l0).bind fun t249 => (if (t249.size : Int) > 65536 then (some ((⟨#[]⟩ : ByteArray), 6)) else (some (t249, 0)))) else (some ((⟨#[]⟩ : ByteArray), t248)))) = some (r1, r2) := h; clear h; replace H := bn_ H; obtain ⟨t248, A2, H⟩ := H; (try dsimp only at H); replace H := (sp_ H).symm; obtain ⟨c3, H⟩ | ⟨c3, H⟩ := H
 ·
  have c3b0 := beq_eq_false_iff_ne.mpr c3; have c3b1 := bne_iff_ne.mpr c3; simp only [Option.some.injEq, Prod.mk.injEq] at H; obtain ⟨rfl, rfl⟩ := H
  go_enter Tryz.func13, Tryz.ntmps13
  go_wp2_with (first | ((with_reducible refine gate_callee (f := 9) rfl ?_); refine gk_ (some 7) Tryz.func9 (salchowref10_Check.calls k _ _ l0 t248 _ ?side1 ?side2 ?side3 A2.out) ?_; (case side1 => exact Gl.below hG (bl_ HB.out)); (case side2 => repeat (first | exact HR0.out | (with_reducible refine Kd.C_alloc ?_ _) | (with_reducible refine Kd.C_drewN ?_ _) | (with_reducible refine Kd.C_drew ?_))); (case side3 => exact HC0.out); rintro e w10 ⟨rfl, hb⟩; refine ⟨_, rfl, ?_⟩; refine cut1_ (below_step (bl_ HB.out) hb) ?_; clear hb HB; intro HB))
  go_ret2
  exact ⟨er_, bl_ HB.out⟩
 have c3b0 := beq_iff_eq.mpr c3; have c3b1 := bne_eq_false_iff_eq.mpr c3; clear c3; replace H := bn_ H; obtain ⟨t249, A4, H⟩ := H; (try dsimp only at H); replace H := sp_ H; obtain ⟨c5, H⟩ | ⟨c5, H⟩ := H
 ·
  have c5b0 := decide_eq_true c5; have c5b1 : decide (65536 < t249.size) = true := decide_eq_true (by omega); clear c5; simp only [Option.some.injEq, Prod.mk.injEq] at H; obtain ⟨rfl, rfl⟩ := H
  go_enter Tryz.func13, Tryz.ntmps13
  go_wp2_with (first | ((with_reducible refine gate_callee (f := 9) rfl ?_); refine gk_ (some 7) Tryz.func9 (salchowref10_Check.calls k _ _ l0 t248 _ ?side1 ?side2 ?side3 A2.out) ?_; (case side1 => exact Gl.below hG (bl_ HB.out)); (case side2 => repeat (first | exact HR0.out | (with_reducible refine Kd.C_alloc ?_ _) | (with_reducible refine Kd.C_drewN ?_ _) | (with_reducible refine Kd.C_drew ?_))); (case side3 => exact HC0.out); rintro e w6 ⟨rfl, hb⟩; refine ⟨_, rfl, ?_⟩; refine cut1_ (below_step (bl_ HB.out) hb) ?_; clear hb HB; intro HB) | ((with_reducible refine gate_callee (f := 32) rfl ?_); refine gk_ (some 12) Tryz.func32 (salchowref11_Source.calls k _ _ l0 t249 _ ?side1 ?side2 ?side3 A4.out) ?_; (case side1 => exact Gl.below hG (bl_ HB.out)); (case side2 => repeat (first | exact (Kd.C_below HR0.out HB.out) | (with_reducible refine Kd.C_alloc ?_ _) | (with_reducible refine Kd.C_drewN ?_ _) | (with_reducible refine Kd.C_drew ?_))); (case side3 => exact HC0.out); rintro e w7 ⟨rfl, hb⟩; refine ⟨_, rfl, ?_⟩; refine cut1_ (below_step (bl_ HB.out) hb) ?_; clear hb HB; intro HB))
  go_ret2
  exact ⟨er_, bl_ HB.out⟩
 have c5b0 := decide_eq_false c5; have c5b1 : decide (65536 < t249.size) = false := decide_eq_false (by omega); clear c5; simp only [Option.some.injEq, Prod.mk.injEq] at H; obtain ⟨rfl, rfl⟩ := H
 go_enter Tryz.func13, Tryz.ntmps13
 go_wp2_with (first | ((with_reducible refine gate_callee (f := 9) rfl ?_); refine gk_ (some 7) Tryz.func9 (salchowref10_Check.calls k _ _ l0 t248 _ ?side1 ?side2 ?side3 A2.out) ?_; (case side1 => exact Gl.below hG (bl_ HB.out)); (case side2 => repeat (first | exact HR0.out | (with_reducible refine Kd.C_alloc ?_ _) | (with_reducible refine Kd.C_drewN ?_ _) | (with_reducible refine Kd.C_drew ?_))); (case side3 => exact HC0.out); rintro e w8 ⟨rfl, hb⟩; refine ⟨_, rfl, ?_⟩; refine cut1_ (below_step (bl_ HB.out) hb) ?_; clear hb HB; intro HB) | ((with_reducible refine gate_callee (f := 32) rfl ?_); refine gk_ (some 12) Tryz.func32 (salchowref11_Source.calls k _ _ l0 t249 _ ?side1 ?side2 ?side3 A4.out) ?_; (case side1 => exact Gl.below hG (bl_ HB.out)); (case side2 => repeat (first | exact (Kd.C_below HR0.out HB.out) | (with_reducible refine Kd.C_alloc ?_ _) | (with_reducible refine Kd.C_drewN ?_ _) | (with_reducible refine Kd.C_drew ?_))); (case side3 => exact HC0.out); rintro e w9 ⟨rfl, hb⟩; refine ⟨_, rfl, ?_⟩; refine cut1_ (below_step (bl_ HB.out) hb) ?_; clear hb HB; intro HB))
 go_ret2
 exact ⟨er_, bl_ HB.out⟩
def salchowref11_Lines.f (k : Nat) (l0 : List (S41)) : Option (Int) := (salchowref11_lines.f k l0).bind fun t250 => (some (t250.length : Int))
theorem salchowref11_Lines.mono : ∀ a0 k, LeO (salchowref11_Lines.f k a0) (salchowref11_Lines.f (k + 1) a0) := by
 intro a0 k
 unfold salchowref11_Lines.f
 repeat' first
   | (with_reducible exact LeO.refl _)
   | exact salchowref11_lines.mono _ _
   | exact LeO.none _
   | refine LeO.ite ?_ ?_
   | refine LeO.bind ?_ (fun _ => ?_)
theorem salchowref11_Lines.calls (k : Nat) (A0 : Option Addr) (c0 : Nat) (l0 : List (S41)) (r : Int) (w : World) (hG : Gl w) (hr0 : Kd.C k41 w A0 l0.length l0) (hc0 : l0.length ≤ c0) (h : salchowref11_Lines.f k l0 = some r) :
  Calls Tryz.prog 14 #[.slice A0 l0.length c0] w fun e w' => e = .returned (.int .i64 r) ∧ Below w.heap.size w w' := by
 have HR0 := Aside0.mk hr0; have HC0 := Aside0.mk hc0; clear hr0 hc0; have HB := Aside0.mk (Below.refl w.heap.size w); have H : ((salchowref11_lines.f k l0).bind fun t250 => (some (t250.length : Int))) = some r := h; clear h; replace H := bn_ H; obtain ⟨t250, A2, H⟩ := H; (try dsimp only at H); obtain rfl := Option.some.inj H
 go_enter Tryz.func14, Tryz.ntmps14
 go_wp2_with (first | ((with_reducible refine gate_callee (f := 33) rfl ?_); refine gk_ (some 4) Tryz.func33 (salchowref11_lines.calls k _ _ l0 t250 _ ?side1 ?side2 ?side3 A2.out) ?_; (case side1 => exact Gl.below hG (bl_ HB.out)); (case side2 => repeat (first | exact HR0.out | (with_reducible refine Kd.C_alloc ?_ _) | (with_reducible refine Kd.C_drewN ?_ _) | (with_reducible refine Kd.C_drew ?_))); (case side3 => exact HC0.out); rintro e w3 ⟨v251, rfl, ho0, hb⟩; refine ⟨_, rfl, ?_⟩; refine cut2_ (Kd.R_lower ho0 (below_size (bl_ HB.out))) (below_step (bl_ HB.out) hb) ?_; clear hb HB; intro HO252 HB; (try clear ho0); obtain ⟨Ao4, co4, eo4⟩ := Kd.R_slice HO252.out; subst eo4))
 go_ret
 exact ⟨er_, bl_ HB.out⟩
mutual
def salchowref11_Blocks.l0 : Nat → List (S41) → Int → Int → Option (Int)
 | 0, _, _, _ => none
 | k + 1, x0, x3, x4 => if x4 < (x0.length : Int) then (if 0 ≤ x4 then (if (rd_T41 x0 x4).f2 = true then ((salchowref11_Blocks.f k ((rd_T41 x0 x4).f3)).bind fun t258 => (salchowref11_Blocks.l0 k x0 (wrap64 (x3 + (wrap64 (1 + t258)))) (wrap64 (x4 + 1)))) else (salchowref11_Blocks.l0 k x0 x3 (wrap64 (x4 + 1)))) else (none)) else (some x3)
def salchowref11_Blocks.f : Nat → List (S41) → Option (Int)
 | 0, _ => none
 | k + 1, l0 => salchowref11_Blocks.l0 k l0 0 0
end
theorem salchowref11_Blocks.mono_l : ∀ k, (∀ y0, LeO (salchowref11_Blocks.f k y0) (salchowref11_Blocks.f (k + 1) y0)) ∧ (∀ y0 y1 y2, LeO (salchowref11_Blocks.l0 k y0 y1 y2) (salchowref11_Blocks.l0 (k + 1) y0 y1 y2))
 | 0 => ⟨fun _ r h => by simp [salchowref11_Blocks.f] at h, fun _ _ _ r h => by simp [salchowref11_Blocks.l0] at h⟩
 | k + 1 => by
  obtain ⟨ih0, ih1⟩ := salchowref11_Blocks.mono_l k
  refine ⟨?_, ?_⟩
  ·
   intro y0
   unfold salchowref11_Blocks.f
   repeat' first
   | (with_reducible exact LeO.refl _)
   | exact ih0 _
   | exact ih1 _ _ _
   | exact LeO.none _
   | refine LeO.ite ?_ ?_
   | refine LeO.bind ?_ (fun _ => ?_)
  ·
   intro y0 y1 y2
   unfold salchowref11_Blocks.l0
   repeat' first
   | (with_reducible exact LeO.refl _)
   | exact ih0 _
   | exact ih1 _ _ _
   | exact LeO.none _
   | refine LeO.ite ?_ ?_
   | refine LeO.bind ?_ (fun _ => ?_)
theorem salchowref11_Blocks.mono : ∀ a0 k, LeO (salchowref11_Blocks.f k a0) (salchowref11_Blocks.f (k + 1) a0) := by
 intro a0 k
 obtain ⟨ih0, ih1⟩ := salchowref11_Blocks.mono_l k
 exact ih0 a0
theorem salchowref11_Blocks.calls (k : Nat) : ∀ (A0 : Option Addr) (c0 : Nat) (l0 : List (S41)) (r : Int) (w : World) (hr0 : Kd.C k41 w A0 l0.length l0) (hc0 : l0.length ≤ c0) (h : salchowref11_Blocks.f k l0 = some r),
  Calls Tryz.prog 16 #[.slice A0 l0.length c0] w fun e w' => e = .returned (.int .i64 r) ∧ Drawn0 w w' := by
 induction k using Nat.strongRecOn with
 | _ k ih =>
 intro A0 c0 l0 r w hr0 hc0 h
 cases k with
 | zero => exact absurd h (by simp [salchowref11_Blocks.f])
 | succ k =>
 simp only [salchowref11_Blocks.f] at h; have HR0 := Aside0.mk hr0; have HC0 := Aside0.mk hc0; clear hr0 hc0; have H : (salchowref11_Blocks.l0 k l0 0 0) = some r := h; clear h; have H' := Aside0.mk H; clear H
 go_enter Tryz.func16, Tryz.ntmps16
 go_wp2
 go_loopg [3, 4] k (fun kq v3 v4 w' => ∃ (x3_1 : Int) (x4_1 : Int), v3 = .int .i64 x3_1 ∧ v4 = .int .i64 x4_1 ∧ Aside0 (salchowref11_Blocks.l0 kq l0 x3_1 x4_1 = some r) ∧ Aside0 (kq ≤ k) ∧ Drawn0 w w')
 case atStart => exact ⟨(0), (0), sr_, sr_, H', ⟨Nat.le_refl _⟩, by repeat (first | exact Drawn0.refl _ | apply Drawn0.step)⟩
 case round =>
  clear H'; obtain ⟨x3_1, x4_1, rfl, rfl, HA, HK1, ⟨m1, rfl⟩⟩ := hrel; obtain _ | k1 := gk
  · exact absurd HA.out (by simp [salchowref11_Blocks.l0])
  have H := HA.out; clear HA; simp only [salchowref11_Blocks.l0] at H; replace H := (sd_ H).symm; obtain ⟨c2b0, H⟩ | ⟨c2b0, H⟩ := H
  ·
   obtain rfl := Option.some.inj H
   go_wp2
   go_ret
   exact ⟨by first | rfl | (simp; done) | (simp [*]; done) | (simp <;> rfl), by repeat (first | exact Drawn0.refl _ | apply Drawn0.step)⟩
  replace H := gd_ H; obtain ⟨c3b0, H⟩ := H; obtain ⟨bq4, hbq4⟩ : ∃ b_ : Bool, b_ = ((rd_T41 l0 x4_1).f2) := ⟨_, rfl⟩; replace H : (if bq4 = true then ((salchowref11_Blocks.f k1 ((rd_T41 l0 x4_1).f3)).bind fun t258 => (salchowref11_Blocks.l0 k1 l0 (wrap64 (x3_1 + (wrap64 (1 + t258)))) (wrap64 (x4_1 + 1)))) else (salchowref11_Blocks.l0 k1 l0 x3_1 (wrap64 (x4_1 + 1)))) = some r := by rw [← hbq4] at H; exact H
  have Nbq4 := Aside0.mk hbq4; clear hbq4; replace H := (sb_ H).symm; obtain ⟨rfl, H⟩ | ⟨rfl, H⟩ := H
  ·
   have H' := Aside0.mk H; clear H; have p256 : 0 ≤ (x4_1 : Int) := dt_; have q256 : x4_1 < (l0.length : Int) := dt_; obtain ⟨ad256, A256_1, c256_1, A256_3, c256_3, e256, hx256_0, hx256_1, hx256_2, hx256_3, hx256_4, hl256_1, hi256_1, hl256_3, hi256_3⟩ := at_T41 HR0.out x4_1 p256 q256; (try rw [← Nbq4.out] at hx256_2); cases e256; have HR256_1 := Aside0.mk hi256_1; have HC256_1 := Aside0.mk hl256_1; clear hi256_1 hl256_1; have HR256_3 := Aside0.mk hi256_3; have HC256_3 := Aside0.mk hl256_3; clear hi256_3 hl256_3; replace p256 := eq_true p256; replace q256 := eq_true q256
   go_wp2
   go_roundg k1
   case measure => have := HK1.out; omega
   case rel => exact ⟨(x3_1), (wrap64 (x4_1 + 1)), sr_, sr_, H', ⟨om_ HK1.out⟩, by repeat (first | exact Drawn0.refl _ | apply Drawn0.step)⟩
  replace H := bn_ H; obtain ⟨t258, A6, H⟩ := H; (try dsimp only at H); have H' := Aside0.mk H; clear H; have p256 : 0 ≤ (x4_1 : Int) := dt_; have q256 : x4_1 < (l0.length : Int) := dt_; obtain ⟨ad256, A256_1, c256_1, A256_3, c256_3, e256, hx256_0, hx256_1, hx256_2, hx256_3, hx256_4, hl256_1, hi256_1, hl256_3, hi256_3⟩ := at_T41 HR0.out x4_1 p256 q256; (try rw [← Nbq4.out] at hx256_2); cases e256; have HR256_1 := Aside0.mk hi256_1; have HC256_1 := Aside0.mk hl256_1; clear hi256_1 hl256_1; have HR256_3 := Aside0.mk hi256_3; have HC256_3 := Aside0.mk hl256_3; clear hi256_3 hl256_3; replace p256 := eq_true p256; replace q256 := eq_true q256; have p257 : 0 ≤ (x4_1 : Int) := dt_; have q257 : x4_1 < (l0.length : Int) := dt_; obtain ⟨ad257, A257_1, c257_1, A257_3, c257_3, e257, hx257_0, hx257_1, hx257_2, hx257_3, hx257_4, hl257_1, hi257_1, hl257_3, hi257_3⟩ := at_T41 HR0.out x4_1 p257 q257; (try rw [← Nbq4.out] at hx257_2); obtain rfl : ad256 = ad257 := (by injection e257); have HR257_1 := Aside0.mk hi257_1; have HC257_1 := Aside0.mk hl257_1; clear hi257_1 hl257_1; have HR257_3 := Aside0.mk hi257_3; have HC257_3 := Aside0.mk hl257_3; clear hi257_3 hl257_3; replace p257 := eq_true p257; replace q257 := eq_true q257; have ea_ := Option.some.inj (hx256_1.symm.trans hx257_1)
  injection ea_ with ea_ en_ ec_
  subst ea_; subst ec_; clear en_; have ea_ := Option.some.inj (hx256_3.symm.trans hx257_3)
  injection ea_ with ea_ en_ ec_
  subst ea_; subst ec_; clear en_
  go_wp2_with (first | ((with_reducible refine gate_callee (f := 16) rfl ?_); refine gk_ (some 22) Tryz.func16 (ih k1 (by have := HK1.out; omega) _ _ ((rd_T41 l0 x4_1).f3) t258 _ ?side1 ?side2 A6.out) ?_; (case side1 => repeat (first | exact HR257_3.out | (with_reducible refine Kd.C_alloc ?_ _) | (with_reducible refine Kd.C_drewN ?_ _) | (with_reducible refine Kd.C_drew ?_))); (case side2 => exact HC257_3.out); rintro e w' ⟨rfl, ⟨nd, rfl⟩⟩; refine ⟨_, rfl, ?_⟩))
  go_roundg k1
  case measure => have := HK1.out; omega
  case rel => exact ⟨(wrap64 (x3_1 + (wrap64 (1 + t258)))), (wrap64 (x4_1 + 1)), sr_, sr_, H', ⟨om_ HK1.out⟩, by repeat (first | exact Drawn0.refl _ | apply Drawn0.step)⟩
def salchowlaw11_PrinterPrints.j0 : Nat → List (S41) → Int → Int → Bool → Option (Bool)
 | 0, _, _, _, _ => none
 | k + 1, x0, x5, x6, x37 => if x37 = true then (none) else ((salchowref10_Check.f k x0).bind fun t267 => (if t267 = 0 then (if x6 = 0 then ((salchowref11_Lines.f k x0).bind fun t268 => (if x5 = t268 then ((parser_Count.f k x0).bind fun t269 => ((salchowref11_Blocks.f k x0).bind fun t270 => (some (x5 == (wrap64 (t269 + t270)))))) else (none))) else (none)) else (if x6 = t267 then (some (x5 == 0)) else (none))))
def salchowlaw11_PrinterPrints.f (k : Nat) (l0 : List (S41)) : Option (Bool) := (salchowlaw11_awake.f k).bind fun t259 => (if t259 = true then ((salchowref10_Small.f k l0 300).bind fun t260 => (if t260 = true then ((printer_Print.f k l0).bind fun bt261 => ((printer_Lines.f k l0).bind fun bt263 => ((salchowref11_Print.f k l0).bind fun bt265 => (if bt261.2 = bt265.2 then (salchowlaw11_PrinterPrints.j0 k l0 bt263.1 bt263.2 (bt261.1.toList != bt265.1.toList)) else (salchowlaw11_PrinterPrints.j0 k l0 bt263.1 bt263.2 true))))) else (some true))) else (none))
theorem salchowlaw11_PrinterPrints.mono_l : ∀ k, (∀ y0 y1 y2 y3, LeO (salchowlaw11_PrinterPrints.j0 k y0 y1 y2 y3) (salchowlaw11_PrinterPrints.j0 (k + 1) y0 y1 y2 y3))
 | 0 => fun _ _ _ _ r h => by simp [salchowlaw11_PrinterPrints.j0] at h
 | k + 1 => by
  have ih0 := salchowlaw11_PrinterPrints.mono_l k
  ·
   intro y0 y1 y2 y3
   unfold salchowlaw11_PrinterPrints.j0
   repeat' first
   | (with_reducible exact LeO.refl _)
   | exact ih0 _ _ _ _
   | exact parser_Count.mono _ _
   | exact printer_Lines.mono _ _
   | exact printer_Print.mono _ _
   | exact salchowlaw11_awake.mono _
   | exact salchowref10_Check.mono _ _
   | exact salchowref10_Small.mono _ _ _
   | exact salchowref11_Blocks.mono _ _
   | exact salchowref11_Lines.mono _ _
   | exact salchowref11_Print.mono _ _
   | exact LeO.none _
   | refine LeO.ite ?_ ?_
   | refine LeO.bind ?_ (fun _ => ?_)
theorem salchowlaw11_PrinterPrints.mono : ∀ a0 k, LeO (salchowlaw11_PrinterPrints.f k a0) (salchowlaw11_PrinterPrints.f (k + 1) a0) := by
 intro a0 k
 have ih0 := salchowlaw11_PrinterPrints.mono_l k
 unfold salchowlaw11_PrinterPrints.f
 repeat' first
   | (with_reducible exact LeO.refl _)
   | exact ih0 _ _ _ _
   | exact parser_Count.mono _ _
   | exact printer_Lines.mono _ _
   | exact printer_Print.mono _ _
   | exact salchowlaw11_awake.mono _
   | exact salchowref10_Check.mono _ _
   | exact salchowref10_Small.mono _ _ _
   | exact salchowref11_Blocks.mono _ _
   | exact salchowref11_Lines.mono _ _
   | exact salchowref11_Print.mono _ _
   | exact LeO.none _
   | refine LeO.ite ?_ ?_
   | refine LeO.bind ?_ (fun _ => ?_)
theorem salchowlaw11_PrinterPrints.calls (k : Nat) (A0 : Option Addr) (c0 : Nat) (l0 : List (S41)) (r : Bool) (w : World) (hG : Gl w) (hr0 : Kd.C k41 w A0 l0.length l0) (hc0 : l0.length ≤ c0) (h : salchowlaw11_PrinterPrints.f k l0 = some r) :
  Calls Tryz.prog 4 #[.slice A0 l0.length c0] w fun e w' => e = .returned (.bool r) ∧ Below w.heap.size w w' := by
 have HR0 := Aside0.mk hr0; have HC0 := Aside0.mk hc0; clear hr0 hc0; have HB := Aside0.mk (Below.refl w.heap.size w); have H : ((salchowlaw11_awake.f k).bind fun t259 => (if t259 = true then ((salchowref10_Small.f k l0 300).bind fun t260 => (if t260 = true then ((printer_Print.f k l0).bind fun bt261 => ((printer_Lines.f k l0).bind fun bt263 => ((salchowref11_Print.f k l0).bind fun bt265 => (if bt261.2 = bt265.2 then (salchowlaw11_PrinterPrints.j0 k l0 bt263.1 bt263.2 (bt261.1.toList != bt265.1.toList)) else (salchowlaw11_PrinterPrints.j0 k l0 bt263.1 bt263.2 true))))) else (some true))) else (none))) = some r := h; clear h; replace H := bn_ H; obtain ⟨t259, A2, H⟩ := H; (try dsimp only at H); replace H := gb_ H; obtain ⟨rfl, H⟩ := H; replace H := bn_ H; obtain ⟨t260, A4, H⟩ := H; (try dsimp only at H); replace H := (sb_ H).symm; obtain ⟨rfl, H⟩ | ⟨rfl, H⟩ := H
 ·
  obtain rfl := Option.some.inj H
  go_enter Tryz.func4, Tryz.ntmps4
  go_wp2_with (first | ((with_reducible refine gate_callee (f := 6) rfl ?_); refine gk_ (some 10) Tryz.func6 (salchowlaw11_awake.calls k  true _ ?side1 A2.out) ?_; (case side1 => exact Gl.below hG (bl_ HB.out)); rintro e w28 ⟨rfl, hb⟩; refine ⟨_, rfl, ?_⟩; refine cut1_ (below_step (bl_ HB.out) hb) ?_; clear hb HB; intro HB) | ((with_reducible refine gate_callee (f := 7) rfl ?_); refine gk_ (some 13) Tryz.func7 (salchowref10_Small.calls k _ _ l0 300 false _ ?side1 ?side2 A4.out) ?_; (case side1 => repeat (first | exact (Kd.C_below HR0.out HB.out) | (with_reducible refine Kd.C_alloc ?_ _) | (with_reducible refine Kd.C_drewN ?_ _) | (with_reducible refine Kd.C_drew ?_))); (case side2 => exact HC0.out); rintro e w' ⟨rfl, ⟨nd, rfl⟩⟩; refine ⟨_, rfl, ?_⟩))
  go_ret
  exact ⟨er_, bl_ HB.out⟩
 replace H := bn_ H; obtain ⟨⟨t261, t262⟩, A6, H⟩ := H; (try dsimp only at H); replace H := bn_ H; obtain ⟨⟨t263, t264⟩, A7, H⟩ := H; (try dsimp only at H); replace H := bn_ H; obtain ⟨⟨t265, t266⟩, A8, H⟩ := H; (try dsimp only at H); have HC9 := Aside0.mk H; clear H
 go_enter Tryz.func4, Tryz.ntmps4
 go_upto_region 8 with (first | ((with_reducible refine gate_callee (f := 6) rfl ?_); refine gk_ (some 10) Tryz.func6 (salchowlaw11_awake.calls k  true _ ?side1 A2.out) ?_; (case side1 => exact Gl.below hG (bl_ HB.out)); rintro e w10 ⟨rfl, hb⟩; refine ⟨_, rfl, ?_⟩; have n0_ := Aside0.mk (below_step (bl_ HB.out) hb); clear HB; have HB := n0_; clear n0_; (try clear hb); (try clear hb2); (try clear hk); (try clear hi)) | ((with_reducible refine gate_callee (f := 7) rfl ?_); refine gk_ (some 13) Tryz.func7 (salchowref10_Small.calls k _ _ l0 300 true _ ?side1 ?side2 A4.out) ?_; (case side1 => repeat (first | exact (Kd.C_below HR0.out HB.out) | (with_reducible refine Kd.C_alloc ?_ _) | (with_reducible refine Kd.C_drewN ?_ _) | (with_reducible refine Kd.C_drew ?_))); (case side2 => exact HC0.out); rintro e w' ⟨rfl, ⟨nd, rfl⟩⟩; refine ⟨_, rfl, ?_⟩) | ((with_reducible refine gate_callee (f := 11) rfl ?_); refine gk_ (some 17) Tryz.func11 (printer_Print.calls k _ _ l0 t261 t262 _ ?side1 ?side2 ?side3 A6.out) ?_; (case side1 => exact Gl.below hG (bl_ HB.out)); (case side2 => repeat (first | exact (Kd.C_below HR0.out (bl_ HB.out)) | (with_reducible refine Kd.C_alloc ?_ _) | (with_reducible refine Kd.C_drewN ?_ _) | (with_reducible refine Kd.C_drew ?_))); (case side3 => exact HC0.out); rintro e w11 ⟨rfl, hb⟩; refine ⟨_, rfl, ?_⟩; have n0_ := Aside0.mk (below_step (bl_ HB.out) hb); clear HB; have HB := n0_; clear n0_; (try clear hb); (try clear hb2); (try clear hk); (try clear hi)) | ((with_reducible refine gate_callee (f := 12) rfl ?_); refine gk_ (some 22) Tryz.func12 (printer_Lines.calls k _ _ l0 t263 t264 _ ?side1 ?side2 A7.out) ?_; (case side1 => repeat (first | exact (Kd.C_below HR0.out HB.out) | (with_reducible refine Kd.C_alloc ?_ _) | (with_reducible refine Kd.C_drewN ?_ _) | (with_reducible refine Kd.C_drew ?_))); (case side2 => exact HC0.out); rintro e w12 ⟨rfl, hb⟩; refine ⟨_, rfl, ?_⟩; have n0_ := Aside0.mk (below_step (bl_ HB.out) hb); clear HB; have HB := n0_; clear n0_; (try clear hb); (try clear hb2); (try clear hk); (try clear hi)) | ((with_reducible refine gate_callee (f := 13) rfl ?_); refine gk_ (some 27) Tryz.func13 (salchowref11_Print.calls k _ _ l0 t265 t266 _ ?side1 ?side2 ?side3 A8.out) ?_; (case side1 => exact Gl.below hG (bl_ HB.out)); (case side2 => repeat (first | exact (Kd.C_below HR0.out HB.out) | (with_reducible refine Kd.C_alloc ?_ _) | (with_reducible refine Kd.C_drewN ?_ _) | (with_reducible refine Kd.C_drew ?_))); (case side3 => exact HC0.out); rintro e w13 ⟨rfl, hb⟩; refine ⟨_, rfl, ?_⟩; have n0_ := Aside0.mk (below_step (bl_ HB.out) hb); clear HB; have HB := n0_; clear n0_; (try clear hb); (try clear hb2); (try clear hk); (try clear hi)))
 (try simp only [Act.put, List.setIfInBounds_toArray, List.set_cons_zero, List.set_cons_succ])
 go_cut [37] (fun v37 wc => ∃ (kq : Nat) (x37_8 : Bool), v37 = .bool x37_8 ∧ Aside0 (salchowlaw11_PrinterPrints.j0 kq l0 t263 t264 x37_8 = some r) ∧ Aside0 (kq ≤ k) ∧ Aside0 (Below w.heap.size w wc))
 case first =>
  have H := HC9.out; clear HC9; replace H := (sp_ H).symm; obtain ⟨c14, H⟩ | ⟨c14, H⟩ := H
  ·
   have c14b0 := beq_eq_false_iff_ne.mpr c14; have c14b1 := bne_iff_ne.mpr c14
   (first | rw [c14b0] | (simp only [i64_w, i32_w]; rw [c14b0]) | skip)
   have H' := Aside0.mk H; clear H
   go_wp2
   go_meet
   case rel => exact ⟨_, (true), sr_, H', ⟨by first | omega | exact Nat.le_refl _⟩, ⟨bl_ HB.out⟩⟩
  have c14b0 := beq_iff_eq.mpr c14; have c14b1 := bne_eq_false_iff_eq.mpr c14; clear c14
  (first | rw [c14b0] | (simp only [i64_w, i32_w]; rw [c14b0]) | skip)
  have H' := Aside0.mk H; clear H
  go_wp2
  go_meet
  case rel => exact ⟨_, ((t261.toList != t265.toList)), sr_, H', ⟨by first | omega | exact Nat.le_refl _⟩, ⟨bl_ HB.out⟩⟩
 case rest =>
  clear HC9; (try clear c3); (try clear c5); obtain ⟨kq, x37_8, rfl, HA, HJ8, HB⟩ := hcut
  cases kq with
  | zero => exact absurd HA.out (by simp [salchowlaw11_PrinterPrints.j0])
  | succ kj8 =>
   have H := HA.out; clear HA; simp only [salchowlaw11_PrinterPrints.j0] at H; replace H := gf_ H; obtain ⟨rfl, H⟩ := H; replace H := bn_ H; obtain ⟨t267, A16, H⟩ := H; (try dsimp only at H); replace H := (sp_ H).symm; obtain ⟨c17, H⟩ | ⟨c17, H⟩ := H
   ·
    have c17b0 := beq_eq_false_iff_ne.mpr c17; have c17b1 := bne_iff_ne.mpr c17; replace H := ge_ H; obtain ⟨c26b0, c26b1, H⟩ := H; obtain rfl := Option.some.inj H
    go_wp2_with (first | ((with_reducible refine gate_callee (f := 9) rfl ?_); refine gk_ (some 39) Tryz.func9 (salchowref10_Check.calls kj8 _ _ l0 t267 _ ?side1 ?side2 ?side3 A16.out) ?_; (case side1 => exact Gl.below hG (bl_ HB.out)); (case side2 => repeat (first | exact (Kd.C_below HR0.out HB.out) | (with_reducible refine Kd.C_alloc ?_ _) | (with_reducible refine Kd.C_drewN ?_ _) | (with_reducible refine Kd.C_drew ?_))); (case side3 => exact HC0.out); rintro e w27 ⟨rfl, hb⟩; refine ⟨_, rfl, ?_⟩; refine cut1_ (below_step (bl_ HB.out) hb) ?_; clear hb HB; intro HB))
    go_ret
    exact ⟨er_, bl_ HB.out⟩
   have c17b0 := beq_iff_eq.mpr c17; have c17b1 := bne_eq_false_iff_eq.mpr c17; clear c17; replace H := ge_ H; obtain ⟨c18b0, c18b1, H⟩ := H; replace H := bn_ H; obtain ⟨t268, A19, H⟩ := H; (try dsimp only at H); replace H := ge_ H; obtain ⟨c20b0, c20b1, H⟩ := H; replace H := bn_ H; obtain ⟨t269, A21, H⟩ := H; (try dsimp only at H); replace H := bn_ H; obtain ⟨t270, A22, H⟩ := H; (try dsimp only at H); obtain rfl := Option.some.inj H
   go_wp2_with (first | ((with_reducible refine gate_callee (f := 9) rfl ?_); refine gk_ (some 39) Tryz.func9 (salchowref10_Check.calls kj8 _ _ l0 t267 _ ?side1 ?side2 ?side3 A16.out) ?_; (case side1 => exact Gl.below hG (bl_ HB.out)); (case side2 => repeat (first | exact (Kd.C_below HR0.out HB.out) | (with_reducible refine Kd.C_alloc ?_ _) | (with_reducible refine Kd.C_drewN ?_ _) | (with_reducible refine Kd.C_drew ?_))); (case side3 => exact HC0.out); rintro e w23 ⟨rfl, hb⟩; refine ⟨_, rfl, ?_⟩; refine cut1_ (below_step (bl_ HB.out) hb) ?_; clear hb HB; intro HB) | (go_at_call 14; (with_reducible refine (salchowref11_Lines.calls kj8 _ _ l0 t268 _ ?side1 ?side2 ?side3 A19.out).mono ?_); (case side1 => exact Gl.below hG (bl_ HB.out)); (case side2 => repeat (first | exact (Kd.C_below HR0.out HB.out) | (with_reducible refine Kd.C_alloc ?_ _) | (with_reducible refine Kd.C_drewN ?_ _) | (with_reducible refine Kd.C_drew ?_))); (case side3 => exact HC0.out); rintro e w24 ⟨rfl, hb⟩; refine cut1_ (below_step (bl_ HB.out) hb) ?_; clear HB; intro HB; (try clear hb); (try clear hb2); (try clear hk); (try clear hi)) | (go_at_call 15; (with_reducible refine (parser_Count.calls kj8 _ _ l0 t269 _ ?side1 ?side2 A21.out).mono ?_); (case side1 => repeat (first | exact (Kd.C_below HR0.out HB.out) | (with_reducible refine Kd.C_alloc ?_ _) | (with_reducible refine Kd.C_drewN ?_ _) | (with_reducible refine Kd.C_drew ?_))); (case side2 => exact HC0.out); rintro e w25 ⟨rfl, hb⟩; refine cut1_ (below_step (bl_ HB.out) hb) ?_; clear HB; intro HB; (try clear hb); (try clear hb2); (try clear hk); (try clear hi)) | (go_at_call 16; (with_reducible refine (salchowref11_Blocks.calls kj8 _ _ l0 t270 _ ?side1 ?side2 A22.out).mono ?_); (case side1 => repeat (first | exact (Kd.C_below HR0.out HB.out) | (with_reducible refine Kd.C_alloc ?_ _) | (with_reducible refine Kd.C_drewN ?_ _) | (with_reducible refine Kd.C_drew ?_))); (case side2 => exact HC0.out); rintro e w' ⟨rfl, ⟨nd, rfl⟩⟩))
   go_ret
   exact ⟨er_, bl_ HB.out⟩
end Go.Proofs.YtkifdadhojbohaaGreatDoor.Pr
namespace Go.Proofs.YtkifdadhojbohaaGreatDoor.Pu
open Go.RowKit Go.Proofs.YtkifdadhojbohaaGreatDoor Go.Proofs.YtkifdadhojbohaaGreatDoor.Pr Go.Proofs.YtkifdadhojbohaaGreatDoorW.PrintWords Go.Proofs.YtkifdadhojbohaaGreatDoorW.PrintLast Go.Proofs.YtkifdadhojbohaaGreatDoorW.PrintMore
def linesL : List S41 → List (List UInt8)
  | [] => []
  | c :: l => firstL c :: ((if c.f2 = true then (linesL c.f3).map (fun x => [32, 32] ++ x) ++ [[125]] else []) ++ linesL l)
termination_by l => SizeOf.sizeOf l
decreasing_by
  · exact size_kids c l
  · exact size_tail c l
def blkL : List S41 → Nat
  | [] => 0
  | c :: l => (if c.f2 = true then 1 + blkL c.f3 else 0) + blkL l
termination_by l => SizeOf.sizeOf l
decreasing_by
  · exact size_kids c l
  · exact size_tail c l
theorem rep_two (n : Nat) : (List.replicate (n + 2) 32 : List UInt8) = List.replicate n 32 ++ [32, 32] := by
  rw [List.replicate_succ', List.replicate_succ', List.append_assoc]; rfl
theorem src_lines : ∀ l n, srcL n l = ((linesL l).map fun x => List.replicate n 32 ++ (x ++ [10])).flatten := by
  refine indL (by intro n; simp [srcL, linesL]) ?_
  intro c l h1 h2 n
  rw [srcL, linesL, h2]
  by_cases hb : c.f2 = true
  · rw [if_pos hb, if_pos hb, h1]
    simp only [List.map_cons, List.map_append, List.map_map, List.flatten_cons, List.flatten_append, List.map_nil, List.flatten_nil, List.append_nil, rep_two]
    have e : ((fun x : List UInt8 => List.replicate n 32 ++ (x ++ [10])) ∘ fun x => [32, 32] ++ x) = fun x => List.replicate n 32 ++ [32, 32] ++ (x ++ [10]) := by
      funext x; simp
    rw [e]
    simp
  · rw [if_neg hb, if_neg hb]
    simp
theorem src_up : ∀ l n, (srcL n l).length ≤ (srcL (n + 2) l).length := by
  refine indL (by intro n; simp [srcL]) ?_
  intro c l h1 h2 n
  rw [srcL, srcL]
  have := h2 n
  have := h1 (n + 2)
  by_cases hb : c.f2 = true
  · rw [if_pos hb, if_pos hb]
    simp only [List.length_append, List.length_cons, List.length_replicate, List.length_nil]
    omega
  · rw [if_neg hb, if_neg hb]
    simp only [List.length_append, List.length_cons, List.length_replicate, List.length_nil]
    omega
theorem line_le {l : List S41} {x : List UInt8} (hx : x ∈ linesL l) : x.length + 1 ≤ (srcL 0 l).length := by
  rw [src_lines l 0]
  generalize linesL l = L at hx
  induction L with
  | nil => cases hx
  | cons y L ih =>
    simp only [List.map_cons, List.flatten_cons, List.length_append, List.replicate_zero, List.nil_append, List.length_cons, List.length_nil]
    rcases List.mem_cons.1 hx with rfl | h
    · omega
    · have := ih h
      simp only [List.replicate_zero, List.nil_append] at this
      omega
theorem cons_le {c : S41} {l : List S41} : (firstL c).length ≤ (srcL 0 (c :: l)).length ∧ (srcL 0 l).length ≤ (srcL 0 (c :: l)).length ∧ (c.f2 = true → (srcL 0 c.f3).length ≤ (srcL 0 (c :: l)).length) := by
  have hu := src_up c.f3 0
  rw [srcL]
  by_cases hb : c.f2 = true
  · rw [if_pos hb]
    simp only [List.length_append, List.length_cons, List.length_replicate, List.length_nil]
    refine ⟨by omega, by omega, fun _ => by omega⟩
  · rw [if_neg hb]
    simp only [List.length_append, List.length_cons, List.length_replicate, List.length_nil]
    refine ⟨by omega, by omega, fun h => absurd h hb⟩
theorem lines_le : ∀ l, (linesL l).length ≤ 2 * szL l := by
  refine indL (by simp [linesL]) ?_
  intro c l h1 h2
  rw [linesL, szL]
  by_cases hb : c.f2 = true
  · rw [if_pos hb]
    simp only [List.length_append, List.length_cons, List.length_map, List.length_nil]
    omega
  · rw [if_neg hb]
    simp only [List.length_append, List.length_cons, List.length_nil]
    omega
theorem lines_cnt : ∀ l, formL l = true → (linesL l).length = cntL l + blkL l := by
  refine indL (by intro _; simp [linesL, cntL, blkL]) ?_
  intro c l h1 h2 hf
  rw [formL] at hf
  simp only [Bool.and_eq_true] at hf
  obtain ⟨⟨⟨⟨f1, f2⟩, f3⟩, f4⟩, f5⟩ := hf
  have k1 := h1 f4
  have k2 := h2 f5
  rw [linesL, cntL, blkL]
  by_cases hb : c.f2 = true
  · rw [if_pos hb, if_pos hb]
    simp only [List.length_append, List.length_cons, List.length_map, List.length_nil]
    omega
  · rw [if_neg hb, if_neg hb]
    have hk : c.f3 = [] := by
      cases h : c.f3 with
      | nil => rfl
      | cons a b => rw [h] at f2; simp [hb] at f2
    rw [hk]
    simp only [List.length_append, List.length_cons, List.length_nil, cntL]
    omega
theorem rdOf_at {T : List ByteArray} {i : Nat} {t : ByteArray} {r : List ByteArray} (h : T.drop i = t :: r) : i < T.length ∧ rdOf ByteArray.empty T (i : Int) = t ∧ T.drop (i + 1) = r := by
  have hi : i < T.length := by
    apply Classical.byContradiction
    intro hn
    rw [List.drop_eq_nil_of_le (by omega)] at h
    cases h
  refine ⟨hi, ?_, ?_⟩
  · have := congrArg (·[0]?) h
    simp only [List.getElem?_drop, Nat.add_zero, List.getElem?_cons_zero] at this
    simp [rdOf, List.getD_eq_getElem?_getD, this]
  · rw [← List.drop_drop, h]; rfl
theorem rlines_f : ∀ l, formL l = true → szL l ≤ 900000 → AllC (txt 90000) l → (srcL 0 l).length ≤ 70368744177664 → Ev (fun k => salchowref11_lines.f k l) ((linesL l).map str) := by
  have loop : ∀ l, formL l = true → szL l ≤ 900000 → AllC (txt 90000) l → (srcL 0 l).length ≤ 70368744177664 → ∀ (A : List S41) (i : Nat) (acc : List ByteArray), A.drop i = l → i ≤ A.length → A.length ≤ 900000 → acc.length + (linesL l).length ≤ 5000000 →
      Ev (fun k => salchowref11_lines.l0 k A acc (i : Int)) (acc ++ (linesL l).map str) := by
    refine indL ?_ ?_
    · intro _ _ _ _ A i acc hA hi hn _
      have : A.length ≤ i := List.drop_eq_nil_iff.1 hA
      refine Ev.succ ?_
      simp only [salchowref11_lines.l0]
      exact Ev.ifn (by omega) (Ev.ret (by simp [linesL]))
    · intro c l h1 h2 hf hs hP hB A i acc hA hi hn hacc
      rw [szL] at hs
      rw [formL] at hf
      simp only [Bool.and_eq_true] at hf
      obtain ⟨⟨⟨⟨f1, f2⟩, f3⟩, f4⟩, f5⟩ := hf
      cases hP with
      | cons _ _ hc hk hr =>
      obtain ⟨hw, ha⟩ := hc
      obtain ⟨a1, a2, a3⟩ := rd41_at hA
      obtain ⟨b1, b2, b3⟩ := cons_le (c := c) (l := l)
      have hline := rLine_f c (by omega) (fun t ht => by have := ha t ht; omega) (by omega) (Nat.le_trans b1 (Nat.le_trans hB (Nat.le_of_ble_eq_true rfl)))
      have hll := lines_le c.f3
      have hcl := len_le c.f3
      rw [linesL] at hacc
      refine Ev.succ ?_
      simp only [salchowref11_lines.l0, a2]
      rw [wrap_nat i (by omega)]
      refine Ev.ifp (by omega) (Ev.ifp natO (Ev.bind hline ?_))
      by_cases hb : c.f2 = true
      · rw [if_pos hb] at hacc
        simp only [List.length_append, List.length_cons, List.length_map, List.length_nil] at hacc
        have hB3 : (srcL 0 c.f3).length ≤ 70368744177664 := Nat.le_trans (b3 hb) hB
        refine Ev.ifp (by omega) (Ev.val rfl (Ev.ifp hb (Ev.bind (a := (linesL c.f3).map str) ?_ ?_)))
        · refine Ev.succ ?_
          simp only [salchowref11_lines.f]
          have := h1 f4 (by omega) hk hB3 c.f3 0 [] rfl (by omega) (by omega) (by simp; omega)
          simpa using this
        · -- the lines of the block
          have inner : ∀ (ks : List (List UInt8)) (j : Nat) (acc2 : List ByteArray), ((linesL c.f3).map str).drop j = ks.map str → j ≤ (linesL c.f3).length → (∀ x ∈ ks, x ∈ linesL c.f3) → acc2.length + ks.length + 1 + (linesL l).length ≤ 5000000 →
              Ev (fun k => salchowref11_lines.l1 k A acc2 (i : Int) ((linesL c.f3).map str) (j : Int)) (acc2 ++ (ks.map (fun x => str ([32, 32] ++ x)) ++ str [125] :: (linesL l).map str)) := by
            intro ks
            induction ks with
            | nil =>
              intro j acc2 hd hj hm hlen
              have : (linesL c.f3).length ≤ j := by
                have := List.drop_eq_nil_iff.1 hd
                simpa using this
              refine Ev.succ ?_
              simp only [salchowref11_lines.l1, List.length_map]
              rw [wrap_nat i (by omega)]
              simp only [List.length_nil] at hlen
              refine Ev.ifn (by omega) (Ev.ifp (by omega) ?_)
              have := h2 f5 (by omega) hr (Nat.le_trans b2 hB) A (i + 1) (acc2 ++ [str [125]]) a3 (by omega) hn (by simp; omega)
              exact Ev.cast (by simp) this
            | cons x ks ih =>
              intro j acc2 hd hj hm hlen
              obtain ⟨r1, r2, r3⟩ := rdOf_at hd
              have hx := line_le (hm x (by simp))
              simp only [List.length_map] at r1
              simp only [List.length_cons] at hlen
              refine Ev.succ ?_
              simp only [salchowref11_lines.l1, List.length_map, r2]
              rw [show wrap64 ((j : Int) + 1) = ((j + 1 : Nat) : Int) from (wrap64_of (by omega) (by omega)).trans (by omega)]
              refine Ev.ifp (by omega) (Ev.ifp natO (Ev.ifp ?_ (Ev.ifp (by omega) ?_)))
              · rw [size_str]
                exact Nat.le_trans (m := 70368744177666) (by omega) (Nat.le_of_ble_eq_true rfl)
              · rw [show (⟨#[32, 32]⟩ : ByteArray) = str [32, 32] from rfl, str_append]
                have := ih (j + 1) (acc2 ++ [str ([32, 32] ++ x)]) r3 (by omega) (fun y hy => hm y (by simp [hy])) (by simp; omega)
                exact Ev.cast (by simp) this
          have := inner (linesL c.f3) 0 (acc ++ [str (firstL c)]) rfl (by omega) (fun x hx => hx) (by simp; omega)
          rw [linesL, if_pos hb]
          exact Ev.cast (by simp [Function.comp_def]) this
      · rw [if_neg hb] at hacc
        simp only [List.length_append, List.length_cons, List.length_nil] at hacc
        refine Ev.ifp (by omega) (Ev.val rfl (Ev.ifn hb ?_))
        have := h2 f5 (by omega) hr (Nat.le_trans b2 hB) A (i + 1) (acc ++ [str (firstL c)]) a3 (by omega) hn (by simp; omega)
        rw [linesL, if_neg hb]
        simpa using this
  intro l hf hs hP hB
  have h1 := len_le l
  have h2 := lines_le l
  refine Ev.succ ?_
  simp only [salchowref11_lines.f]
  have := loop l hf hs hP hB l 0 [] rfl (by omega) (by omega) (by simp; omega)
  simpa using this
theorem rSource_f (l : List S41) (hf : formL l = true) (hs : szL l ≤ 900000) (hP : AllC (txt 90000) l) (hB : (srcL 0 l).length ≤ 70368744177664) : Ev (fun k => salchowref11_Source.f k l) (str (srcL 0 l)) := by
  have h2 := lines_le l
  unfold salchowref11_Source.f
  refine Ev.bind (rlines_f l hf hs hP hB) ?_
  have loop : ∀ (ks : List (List UInt8)) (j : Nat) (acc : List UInt8), ((linesL l).map str).drop j = ks.map str → j ≤ (linesL l).length → acc ++ (ks.map fun x => x ++ [10]).flatten = srcL 0 l →
      Ev (fun k => salchowref11_Source.l0 k (str acc) ((linesL l).map str) (j : Int)) (str (srcL 0 l)) := by
    intro ks
    induction ks with
    | nil =>
      intro j acc hd hj hacc
      have : (linesL l).length ≤ j := by
        have := List.drop_eq_nil_iff.1 hd
        simpa using this
      refine Ev.succ ?_
      simp only [salchowref11_Source.l0, List.length_map]
      refine Ev.ifn (by omega) (Ev.ret ?_)
      rw [← hacc]; simp
    | cons x ks ih =>
      intro j acc hd hj hacc
      obtain ⟨r1, r2, r3⟩ := rdOf_at hd
      simp only [List.length_map] at r1
      have hl : acc.length + (x.length + 1) ≤ 70368744177664 := by
        have := congrArg List.length hacc
        rw [List.map_cons, List.flatten_cons, List.length_append, List.length_append, List.length_append] at this
        simp only [List.length_cons, List.length_nil] at this
        omega
      refine Ev.succ ?_
      simp only [salchowref11_Source.l0, List.length_map, r2]
      rw [show wrap64 ((j : Int) + 1) = ((j + 1 : Nat) : Int) from (wrap64_of (by omega) (by omega)).trans (by omega), str_one, str_append]
      refine Ev.ifp (by omega) (Ev.ifp natO (Ev.ifp ?_ (Ev.ifp ?_ ?_)))
      · rw [size_str]; exact Nat.le_trans (m := 70368744177664) (by omega) (Nat.le_of_ble_eq_true rfl)
      · rw [size_str, size_str, List.length_append]; exact Nat.le_trans (m := 70368744177664) (by simpa using hl) (Nat.le_of_ble_eq_true rfl)
      · rw [str_append]
        refine ih (j + 1) _ r3 (by omega) ?_
        rw [← hacc, List.map_cons, List.flatten_cons]
        simp
  have := loop (linesL l) 0 [] rfl (by omega) (by rw [src_lines l 0]; simp)
  exact this
theorem rPrint_f (l : List S41) (hs : szL l ≤ 900000) (hP : AllC (txt 90000) l) : Ev (fun k => salchowref11_Print.f k l) (printA l) := by
  unfold salchowref11_Print.f printA
  refine Ev.bind (rCheck_f l hs hP) ?_
  by_cases hc : chkL l = 0
  · refine Ev.ifp hc (Ev.cast (if_pos hc).symm ?_)
    obtain ⟨hf, hd⟩ := chk_ok hc
    obtain ⟨K, g⟩ := SpG_f l hs (txt_mono (by omega) hP) hf hd
    have hB := (g K (by omega)).1
    refine Ev.bind (rSource_f l hf hs hP hB) ?_
    rw [size_str]
    by_cases h6 : 65536 < (srcL 0 l).length
    · exact Ev.ifp (by omega) (Ev.ret (if_pos h6).symm)
    · exact Ev.ifn (by omega) (Ev.ret (if_neg h6).symm)
  · exact Ev.ifn hc (Ev.ret (if_neg hc).symm)
theorem rLines_f (l : List S41) (hf : formL l = true) (hs : szL l ≤ 900000) (hP : AllC (txt 90000) l) (hB : (srcL 0 l).length ≤ 70368744177664) : Ev (fun k => salchowref11_Lines.f k l) ((linesL l).length : Int) := by
  unfold salchowref11_Lines.f
  exact Ev.bind (rlines_f l hf hs hP hB) (Ev.ret (by rw [List.length_map]))
theorem rBlocks_f : ∀ l, szL l ≤ 900000 → Ev (fun k => salchowref11_Blocks.f k l) (blkL l : Int) := by
  have ble : ∀ l, blkL l ≤ szL l := by
    refine indL (by simp [blkL]) ?_
    intro c l h1 h2
    rw [blkL, szL]
    split <;> omega
  have loop : ∀ l, szL l ≤ 900000 → ∀ (A : List S41) (i m : Nat), A.drop i = l → A.length ≤ 900000 → m + blkL l ≤ 900000 → i ≤ A.length → Ev (fun k => salchowref11_Blocks.l0 k A (m : Int) (i : Int)) ((m + blkL l : Nat) : Int) := by
    refine indL ?_ ?_
    · intro _ A i m hA hn hm hi
      have : A.length ≤ i := List.drop_eq_nil_iff.1 hA
      refine Ev.succ ?_
      simp only [salchowref11_Blocks.l0]
      exact Ev.ifn (by omega) (Ev.ret (by simp [blkL]))
    · intro c l h1 h2 hs A i m hA hn hm hi
      rw [szL] at hs
      obtain ⟨a1, a2, a3⟩ := rd41_at hA
      have hd := ble c.f3
      have hc := len_le c.f3
      rw [blkL] at hm
      refine Ev.succ ?_
      simp only [salchowref11_Blocks.l0, a2]
      rw [wrap_nat i (by omega)]
      refine Ev.ifp (by omega) (Ev.ifp natO ?_)
      by_cases hb : c.f2 = true
      · rw [if_pos hb] at hm
        refine Ev.ifp hb (Ev.bind (a := ((blkL c.f3 : Nat) : Int)) ?_ ?_)
        · refine Ev.succ ?_
          simp only [salchowref11_Blocks.f]
          simpa using h1 (by omega) c.f3 0 0 rfl (by omega) (by omega) (by omega)
        · have e : wrap64 ((m : Int) + wrap64 (1 + ((blkL c.f3 : Nat) : Int))) = ((m + (1 + blkL c.f3) : Nat) : Int) := by
            rw [wrap64_of (i := 1 + ((blkL c.f3 : Nat) : Int)) (by omega) (by omega), wrap64_of (by omega) (by omega)]; omega
          rw [e]
          have := h2 (by omega) A (i + 1) (m + (1 + blkL c.f3)) a3 hn (by omega) (by omega)
          rw [blkL, if_pos hb]
          exact Ev.cast (congrArg (fun n : Nat => (n : Int)) (Nat.add_assoc _ _ _)) this
      · rw [if_neg hb] at hm
        refine Ev.ifn hb ?_
        have := h2 (by omega) A (i + 1) m a3 hn (by omega) (by omega)
        rw [blkL, if_neg hb]
        simpa using this
  intro l hl
  have := ble l
  have := len_le l
  refine Ev.succ ?_
  simp only [salchowref11_Blocks.f]
  simpa using loop l hl l 0 0 rfl (by omega) (by omega) (by omega)
theorem plines_f : ∀ l, szL l ≤ 900000 → Ev (fun k => printer_lines.f k l) ((linesL l).length : Int) := by
  have loop : ∀ l, szL l ≤ 900000 → ∀ (A : List S41) (i m : Nat), A.drop i = l → A.length ≤ 900000 → m + (linesL l).length ≤ 2000000 → i ≤ A.length → Ev (fun k => printer_lines.l0 k (m : Int) A (A.length : Int) (i : Int)) ((m + (linesL l).length : Nat) : Int) := by
    refine indL ?_ ?_
    · intro _ A i m hA hn hm hi
      have : A.length ≤ i := List.drop_eq_nil_iff.1 hA
      refine Ev.succ ?_
      simp only [printer_lines.l0]
      exact Ev.ifn (by omega) (Ev.ret (by simp [linesL]))
    · intro c l h1 h2 hs A i m hA hn hm hi
      rw [szL] at hs
      obtain ⟨a1, a2, a3⟩ := rd41_at hA
      have hd := lines_le c.f3
      have hc := len_le c.f3
      rw [linesL] at hm
      refine Ev.succ ?_
      simp only [printer_lines.l0, a2]
      rw [wrap_nat i (by omega)]
      have wm : wrap64 ((m : Int) + 1) = ((m + 1 : Nat) : Int) := by rw [wrap64_of (by omega) (by omega)]; omega
      rw [wm]
      clear wm
      refine Ev.ifp (by omega) (Ev.ifp natO (Ev.ifp (by omega) ?_))
      by_cases hb : c.f2 = true
      · rw [if_pos hb] at hm
        simp only [List.length_append, List.length_cons, List.length_map, List.length_nil] at hm
        refine Ev.ifp hb (Ev.bind (a := (((linesL c.f3).length : Nat) : Int)) ?_ ?_)
        · refine Ev.succ ?_
          simp only [printer_lines.f]
          simpa using h1 (by omega) c.f3 0 0 rfl (by omega) (by omega) (by omega)
        · have := h2 (by omega) A (i + 1) (m + 1 + (1 + (linesL c.f3).length)) a3 hn (by omega) (by omega)
          have e : wrap64 (((m + 1 : Nat) : Int) + wrap64 (1 + (((linesL c.f3).length : Nat) : Int))) = ((m + 1 + (1 + (linesL c.f3).length) : Nat) : Int) := by
            rw [wrap64_of (i := 1 + (((linesL c.f3).length : Nat) : Int)) (by omega) (by omega), wrap64_of (by omega) (by omega)]; omega
          rw [e]
          refine Ev.cast ?_ this
          clear e
          rw [linesL, if_pos hb]
          simp only [List.length_append, List.length_cons, List.length_map, List.length_nil]
          omega
      · rw [if_neg hb] at hm
        simp only [List.length_append, List.length_cons, List.length_nil] at hm
        refine Ev.ifn hb ?_
        have := h2 (by omega) A (i + 1) (m + 1) a3 hn (by omega) (by omega)
        refine Ev.cast ?_ this
        rw [linesL, if_neg hb]
        simp only [List.length_append, List.length_cons, List.length_nil]
        omega
  intro l hl
  have h1 := len_le l
  have h2 := lines_le l
  refine Ev.succ ?_
  simp only [printer_lines.f]
  simpa using loop l hl l 0 0 rfl (by omega) (by omega) (by omega)
theorem pLines_f (l : List S41) (hs : szL l ≤ 900000) (hP : AllC (txt 900000) l) : Ev (fun k => printer_Lines.f k l) (if chkL l = 0 then (((linesL l).length : Int), 0) else (0, chkL l)) := by
  unfold printer_Lines.f
  refine Ev.bind (Check_f l hs hP) ?_
  by_cases hc : chkL l = 0
  · exact Ev.ifp hc (Ev.cast (if_pos hc).symm (Ev.bind (plines_f l hs) (Ev.now _)))
  · exact Ev.ifn hc (Ev.cast (if_neg hc).symm (Ev.now _))
theorem prints_tail (l : List S41) (hs : szL l ≤ 300) (hP : AllC (txt 90000) l) : Ev (fun k => salchowlaw11_PrinterPrints.j0 k l (if chkL l = 0 then (((linesL l).length : Int), 0) else (0, chkL l)).1 (if chkL l = 0 then (((linesL l).length : Int), (0 : Int)) else (0, chkL l)).2 false) true := by
  refine Ev.succ ?_
  simp only [salchowlaw11_PrinterPrints.j0]
  refine Ev.ifn (by simp) (Ev.bind (rCheck_f l (by omega) hP) ?_)
  by_cases hc : chkL l = 0
  · refine Ev.ifp hc (Ev.ifp (by rw [if_pos hc]) ?_)
    obtain ⟨hf, hd⟩ := chk_ok hc
    obtain ⟨K, g⟩ := SpG_f l (by omega) (txt_mono (by omega) hP) hf hd
    have hB := (g K (by omega)).1
    have h1 := lines_cnt l hf
    have h2 := cnt_le l
    have h3 := lines_le l
    refine Ev.bind (rLines_f l hf (by omega) hP hB) (Ev.ifp (by rw [if_pos hc]) (Ev.bind (Count_f l (by omega)) (Ev.bind (rBlocks_f l (by omega)) (Ev.ret ?_))))
    rw [if_pos hc, wrap64_of (by omega) (by omega), beq_iff_eq]
    show ((linesL l).length : Int) = _
    omega
  · refine Ev.ifn hc (Ev.ifp (by rw [if_neg hc]) (Ev.ret ?_))
    rw [if_neg hc]; rfl
theorem printerPrints (l : List S41) : ∃ k, salchowlaw11_PrinterPrints.f k l = some true := by
  apply Ev.rounds
  unfold salchowlaw11_PrinterPrints.f
  refine Ev.bind awake11_f (Ev.ifp rfl ?_)
  obtain ⟨b, g1, g2⟩ := Small_f l 300 (by omega)
  refine Ev.bind g1 ?_
  cases b with
  | false => exact Ev.ifn (by simp) (Ev.now _)
  | true =>
    obtain ⟨hsz, hP⟩ := g2 rfl
    have hP' := txt_mono (m := 900000) (by omega) hP
    have hP9 := txt_mono (m := 90000) (by omega) hP
    refine Ev.ifp rfl (Ev.bind (Print_f l (by omega) hP') (Ev.bind (pLines_f l (by omega) hP') (Ev.bind (rPrint_f l (by omega) hP9) (Ev.ifp rfl ?_))))
    have e : ((printA l).1.toList != (printA l).1.toList) = false := by simp
    rw [e]
    exact prints_tail l hsz hP9
end Go.Proofs.YtkifdadhojbohaaGreatDoor.Pu
namespace Go.Proofs.YtkifdadhojbohaaGreatDoor.printerPrints
open Go.Proofs.YtkifdadhojbohaaGreatDoorW.PrintWords
open Go.ChangeShapes Go.WideShapes Go.ChangeAt Go.RowKit Rk
open Go.ChangeMaps (open_string shut_string)
theorem c09 : (Rows.printerPrintsRow.inPlace == Tryz.prog.inPlace 4) = true := by kernel_rfl
theorem c10 : (Rows.printerPrintsRow.unfollowed == Tryz.prog.unfollowed 4) = true := by kernel_rfl
theorem c11 : (Rows.printerPrintsRow.recurses == Tryz.prog.recurses 4) = true := by kernel_rfl
theorem c12 : (Rows.printerPrintsRow.named == Tryz.prog.varsNamed 4) = true := by kernel_rfl
theorem facts : joinedFacts Tryz.prog 4 Tryz.f4 Rows.printerPrintsSpec Rows.printerPrintsRow = true :=
  facts_of _ _ _ _ _ (by kernel_rfl) out_ rowed_ (by kernel_rfl) (by kernel_rfl) rfl (by kernel_rfl) rfl (by kernel_rfl) c09 c10 c11 c12 (by kernel_rfl) (by kernel_rfl) (by kernel_rfl) (by kernel_rfl) (by kernel_rfl)
    (by kernel_rfl) (by kernel_rfl) (by kernel_rfl) (by kernel_rfl) (by kernel_rfl) (by kernel_rfl) heard_ enter_ (by kernel_rfl) (by kernel_rfl) (by kernel_rfl) (by kernel_rfl) (by kernel_rfl) (by kernel_rfl)
theorem goes : false = Rows.printerPrintsRow.goesBy Tryz.prog := by kernel_rfl
theorem lifted (os : Os) (started : os.Started) (H : Type) (enc : TypeId × Value → H) :
    ReturnsInHanded {} Tryz.checked os 4 .any (fun w args => (Rows.printerPrintsSpec.pre enc Tryz.prog Tryz.f4 [] false w args ∧ laidMetH Tryz.prog laidB w) ∧ sizedMet enc Tryz.prog Tryz.f4 (OpenSpec.ofChange Rows.printerPrintsSpec) false w args)
      (Rows.printerPrintsSpec.post enc Tryz.prog Tryz.f4 false true false false) := by
  refine returnsInHanded_of_change_and (C := Tryz.checked) (X := fun w _ => laidMetH Tryz.prog laidB w) (fun _ _ _ hh h => h.of_heap hh) own started (by kernel_rfl) Tryz.func4
    (ChangeSpec.witness_shaped (enc := enc) (C := Tryz.checked) (os := os) (X := fun w _ => laidMetH Tryz.prog laidB w) false (wB os) #[.slice none 0 0] 8 (World.laidAll_os _ _ _)
      (World.shaped_of_ZipB (by kernel_rfl) (by kernel_rfl)) (by kernel_rfl) (by kernel_rfl) (by kernel_rfl) (met_B os _)) ?_
  intro W base args ds gs before hval0 hW _ hsz0 hL _
  have hsz : (DataW.weightsEach Tryz.prog (Tryz.f4.params.toList ++ Rows.printerPrintsSpec.plain.varTypes Tryz.prog) (ds ++ gs)).all (· ≤ reachBytes) = true := hsz0
  have hval : ∀ (j : Nat) t v, Tryz.f4.params[j]? = some t → args[j]? = some v → Value.okWide Tryz.prog W .any base t v := hval0
  have hW' := hW
  obtain ⟨p, q, hA0, hV, rfl, _, _⟩ := hW
  have hA : DataW.TrodAll enc Tryz.prog W 0 (fun _ => true) true Tryz.f4.params.toList args.toList ds p := hA0
  rw [Tryz.params4] at hA hval hsz
  obtain ⟨v0, vs0, d0, ds0, p0, q0, hargs, rfl, rfl, h0, r0⟩ := trodAll_cons hA
  obtain ⟨rfl, rfl, rfl⟩ := trodAll_nil r0
  obtain rfl : args = #[v0] := by cases args; simp_all
  obtain ⟨rfl, rfl⟩ := trodVars_none hV
  obtain ⟨a0, len0, cap0, rfl⟩ := okWide_slice Tryz.underlying23 (hval 0 23 v0 rfl rfl)
  have k0 := h0
  have lt0 : ∀ x ∈ p0, x.block < W.heap.size := by obtain ⟨m, hm⟩ := k0; exact DataW.trod_lt m _ _ _ hm
  obtain ⟨A0, T0, c0, e0, l0, g0⟩ : ∃ A T c, Value.slice a0 len0 cap0 = .slice A T.length c ∧ T.length ≤ c ∧ Kd.C Pr.k41 W A T.length T := by
    obtain ⟨fuel, hf⟩ := h0
    exact open_clauses (fuel := fuel) (by simpa [Value.cells] using hf)
  rw [e0] at k0 hW' ⊢
  clear hA0 hval0 hsz0 hsz
  obtain ⟨k, hk⟩ := Pu.printerPrints T0
  refine (Pr.salchowlaw11_PrinterPrints.calls k A0 c0 T0 true W (gl_B hL) g0 l0 hk).mono fun e W' ⟨he, bel⟩ => ?_
  subst he
  exact ⟨_, rfl, _, _, _, [], _, [], hW', trodAll_mk1 (shut_bool Tryz.underlying4 _), (trodAll_cons_mk (Below.trod out_ (by kernel_rfl) (of_decide_eq_true (by kernel_rfl)) k0 bel lt0) trodAll_mk0), rfl, bel.frame _, fun h => by cases h⟩
theorem over : Rows.printerPrintsRow.holds Tryz.pinned (OpenSpec.ofChange Rows.printerPrintsSpec) :=
  OpenClaim.holds_of_wide 4 Tryz.f4 rfl rfl rfl rfl rfl rfl rfl ⟨rfl, rfl, rfl, rfl, rfl⟩ rfl rfl rfl rfl rfl (by kernel_rfl) Tryz.func4 facts
    (of_decide_eq_true (by kernel_rfl)) (by unfold Func.isWrapper; first | (rw [if_pos (by decide +kernel)]; kernel_rfl) | (rw [if_neg (by decide +kernel)]; exact ⟨rfl, rfl⟩))
    (fun os started H enc _ => lifted os started H enc)
theorem card : Rows.PrinterPrintsCardSaid :=
  Claim7.holds_tied_plain_at .later [] [.data, .data, .data, .data, .sentinel, .sentinel, .pinned] true (true, "91c84e077da0f3e7c89b9306fb49b5e0abee8c509dffb0b85426471aa589cd61") true
    over (fun _ h => by cases h) (by kernel_rfl) (fun _ h => by cases h) printerPrints_row_tie rfl ⟨rfl, rfl⟩ mainIs_ rfl
    (fun f fn hf hfn => by
      obtain rfl : f = 4 := Option.some.inj ((show Tryz.prog.funcNamed "salchow/salchowlaw11.PrinterPrints" = some 4 by kernel_rfl).symm.trans hf) |>.symm
      obtain rfl : fn = Tryz.f4 := (Option.some.inj (Tryz.func4.symm.trans hfn)).symm
      exact ⟨looks_, fun j t ht => by
        rw [Tryz.params4] at ht
        have hm : t ∈ [23] := by simpa using Array.mem_of_getElem? ht
        have hall : ([23].all fun u => !Tryz.prog.wantsStandIn u) = true := by kernel_rfl
        exact (show Tryz.prog.wantsStandIn t = false by simpa using List.all_eq_true.1 hall t hm)⟩)
    goes
#print axioms card
end Go.Proofs.YtkifdadhojbohaaGreatDoor.printerPrints
