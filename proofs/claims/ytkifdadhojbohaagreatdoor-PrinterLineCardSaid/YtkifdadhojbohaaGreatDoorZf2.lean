/- Joined out of the texts of this proof that bear the names PrZ24 PrZ25 PrZ9 PzA PrZ26 PrZ10 PzB: what each shows stands over it there. -/
import Derived.Test.YtkifdadhojbohaaGreatDoorZk1
import Derived.Test.YtkifdadhojbohaaGreatDoorZf1
import Derived.Test.YtkifdadhojbohaaGreatDoorZv1
import Derived.Test.YtkifdadhojbohaaGreatDoorZp1
set_option linter.unusedVariables false
set_option linter.unusedSimpArgs false
set_option maxHeartbeats 8000000
set_option maxRecDepth 100000
namespace Go.Proofs.YtkifdadhojbohaaGreatDoor.Pr
open Go.Proofs.YtkifdadhojbohaaGreatDoor
open Go.RowKit Go.Proofs.YtkifdadhojbohaaGreatDoorW.PrintWords Go.Proofs.YtkifdadhojbohaaGreatDoorW.PrintLast Go.Proofs.YtkifdadhojbohaaGreatDoorW.PrintMore
attribute [local go_sem] max2_int min2_int max_two min_two max_three min_three max_four min_four   -- for this text's walks alone
set_option linter.unusedVariables false
set_option linter.unusedSimpArgs false
mutual
def salchowref10_formed.l0 : Nat → List (S41) → Int → Option (Bool)
 | 0, _, _ => none
 | k + 1, x0, x3 => if x3 < (x0.length : Int) then (if 0 ≤ x3 then ((salchowref09_Valid.f k 1 ((rd_T41 x0 x3).f0) 0 0).bind fun t135 => (if t135 = true then (if ((rd_T41 x0 x3).f2 = true) then ((salchowref10_formed.f k ((rd_T41 x0 x3).f3)).bind fun t136 => (if t136 = true then (salchowref10_formed.l1 k x0 x3 0 ((rd_T41 x0 x3).f0) ((rd_T41 x0 x3).f1) ((rd_T41 x0 x3).f2) ((rd_T41 x0 x3).f3) ((rd_T41 x0 x3).f4)) else (some false))) else (if (((rd_T41 x0 x3).f3).length : Int) > 0 then (some false) else ((salchowref10_formed.f k ((rd_T41 x0 x3).f3)).bind fun t141 => (if t141 = true then (salchowref10_formed.l1 k x0 x3 0 ((rd_T41 x0 x3).f0) ((rd_T41 x0 x3).f1) ((rd_T41 x0 x3).f2) ((rd_T41 x0 x3).f3) ((rd_T41 x0 x3).f4)) else (some false))))) else (some false))) else (none)) else (some true)
def salchowref10_formed.l1 : Nat → List (S41) → Int → Int → ByteArray → List (S46) → Bool → List (S41) → Int → Option (Bool)
 | 0, _, _, _, _, _, _, _, _ => none
 | k + 1, x0, x3, x5, x135000, x135001, x135002, x135003, x135004 => if x5 < (x135001.length : Int) then (if 0 ≤ x5 then ((salchowref10_atom.f ((rd_T46 x135001 x5).f0) ((rd_T46 x135001 x5).f1) ((rd_T46 x135001 x5).f2) ((rd_T46 x135001 x5).f3)).bind fun t138 => (if t138 = true then ((salchowref09_Valid.f k ((rd_T46 x135001 x5).f0) ((rd_T46 x135001 x5).f1) ((rd_T46 x135001 x5).f2) ((rd_T46 x135001 x5).f3)).bind fun t140 => (if t140 = true then (salchowref10_formed.l1 k x0 x3 (wrap64 (x5 + 1)) x135000 x135001 x135002 x135003 x135004) else (some false))) else (some false))) else (none)) else (salchowref10_formed.l0 k x0 (wrap64 (x3 + 1)))
def salchowref10_formed.f : Nat → List (S41) → Option (Bool)
 | 0, _ => none
 | k + 1, l0 => salchowref10_formed.l0 k l0 0
end
theorem salchowref10_formed.mono_l : ∀ k, (∀ y0, LeO (salchowref10_formed.f k y0) (salchowref10_formed.f (k + 1) y0)) ∧ (∀ y0 y1, LeO (salchowref10_formed.l0 k y0 y1) (salchowref10_formed.l0 (k + 1) y0 y1)) ∧ (∀ y0 y1 y2 y3 y4 y5 y6 y7, LeO (salchowref10_formed.l1 k y0 y1 y2 y3 y4 y5 y6 y7) (salchowref10_formed.l1 (k + 1) y0 y1 y2 y3 y4 y5 y6 y7))
 | 0 => ⟨fun _ r h => by simp [salchowref10_formed.f] at h, fun _ _ r h => by simp [salchowref10_formed.l0] at h, fun _ _ _ _ _ _ _ _ r h => by simp [salchowref10_formed.l1] at h⟩
 | k + 1 => by
  obtain ⟨ih0, ih1, ih2⟩ := salchowref10_formed.mono_l k
  refine ⟨?_, ?_, ?_⟩
  ·
   intro y0
   unfold salchowref10_formed.f
   repeat' first
   | (with_reducible exact LeO.refl _)
   | exact ih0 _
   | exact ih1 _ _
   | exact ih2 _ _ _ _ _ _ _ _
   | exact salchowref09_Valid.mono _ _ _ _ _
   | exact LeO.none _
   | refine LeO.ite ?_ ?_
   | refine LeO.bind ?_ (fun _ => ?_)
  ·
   intro y0 y1
   unfold salchowref10_formed.l0
   repeat' first
   | (with_reducible exact LeO.refl _)
   | exact ih0 _
   | exact ih1 _ _
   | exact ih2 _ _ _ _ _ _ _ _
   | exact salchowref09_Valid.mono _ _ _ _ _
   | exact LeO.none _
   | refine LeO.ite ?_ ?_
   | refine LeO.bind ?_ (fun _ => ?_)
  ·
   intro y0 y1 y2 y3 y4 y5 y6 y7
   unfold salchowref10_formed.l1
   repeat' first
   | (with_reducible exact LeO.refl _)
   | exact ih0 _
   | exact ih1 _ _
   | exact ih2 _ _ _ _ _ _ _ _
   | exact salchowref09_Valid.mono _ _ _ _ _
   | exact LeO.none _
   | refine LeO.ite ?_ ?_
   | refine LeO.bind ?_ (fun _ => ?_)
theorem salchowref10_formed.mono : ∀ a0 k, LeO (salchowref10_formed.f k a0) (salchowref10_formed.f (k + 1) a0) := by
 intro a0 k
 obtain ⟨ih0, ih1, ih2⟩ := salchowref10_formed.mono_l k
 exact ih0 a0
theorem salchowref10_formed.calls (k : Nat) : ∀ (A0 : Option Addr) (c0 : Nat) (l0 : List (S41)) (r : Bool) (w : World) (hG : Gl w) (hr0 : Kd.C k41 w A0 l0.length l0) (hc0 : l0.length ≤ c0) (h : salchowref10_formed.f k l0 = some r),
  Calls Tryz.prog 24 #[.slice A0 l0.length c0] w fun e w' => e = .returned (.bool r) ∧ Below w.heap.size w w' := by
 induction k using Nat.strongRecOn with
 | _ k ih =>
 intro A0 c0 l0 r w hG hr0 hc0 h
 cases k with
 | zero => exact absurd h (by simp [salchowref10_formed.f])
 | succ k =>
 simp only [salchowref10_formed.f] at h; have hu25 := Tryz.underlying25; have hu50 := Tryz.underlying50; have HR0 := Aside0.mk hr0; have HC0 := Aside0.mk hc0; clear hr0 hc0; have HB := Aside0.mk (Below.refl w.heap.size w); have H : (salchowref10_formed.l0 k l0 0) = some r := h; clear h; have H' := Aside0.mk H; clear H
 go_enter Tryz.func24, Tryz.ntmps24
 go_wp2
 go_loopg [3] k (fun kq v3 w' => ∃ (x3_1 : Int), v3 = .int .i64 x3_1 ∧ Aside0 (salchowref10_formed.l0 kq l0 x3_1 = some r) ∧ Aside0 (kq ≤ k) ∧ Aside0 (Below w.heap.size w w'))
 case atStart => exact ⟨(0), sr_, H', ⟨Nat.le_refl _⟩, ⟨bl_ HB.out⟩⟩
 case round =>
  clear H'; obtain ⟨x3_1, rfl, HA, HK1, HB⟩ := hrel; obtain _ | k1 := gk
  · exact absurd HA.out (by simp [salchowref10_formed.l0])
  have H := HA.out; clear HA; simp only [salchowref10_formed.l0] at H; replace H := (sd_ H).symm; obtain ⟨c2b0, H⟩ | ⟨c2b0, H⟩ := H
  ·
   obtain rfl := Option.some.inj H
   go_wp2
   go_ret
   exact ⟨er_, bl_ HB.out⟩
  replace H := gd_ H; obtain ⟨c3b0, H⟩ := H; replace H := bn_ H; obtain ⟨t135, A4, H⟩ := H; (try dsimp only at H); replace H := (sb_ H).symm; obtain ⟨rfl, H⟩ | ⟨rfl, H⟩ := H
  ·
   obtain rfl := Option.some.inj H; have p133 : 0 ≤ (x3_1 : Int) := dt_; have q133 : x3_1 < (l0.length : Int) := dt_; obtain ⟨ad133, A133_1, c133_1, A133_3, c133_3, e133, hx133_0, hx133_1, hx133_2, hx133_3, hx133_4, hl133_1, hi133_1, hl133_3, hi133_3⟩ := at_T41 HR0.out x3_1 p133 q133; cases e133; replace hx133_0 := pw_cell_below HB.out hx133_0; replace hx133_1 := pw_cell_below HB.out hx133_1; replace hx133_2 := pw_cell_below HB.out hx133_2; replace hx133_3 := pw_cell_below HB.out hx133_3; replace hx133_4 := pw_cell_below HB.out hx133_4; have HR133_1 := Aside0.mk hi133_1; have HC133_1 := Aside0.mk hl133_1; clear hi133_1 hl133_1; have HR133_3 := Aside0.mk hi133_3; have HC133_3 := Aside0.mk hl133_3; clear hi133_3 hl133_3; replace p133 := eq_true p133; replace q133 := eq_true q133
   go_wp2_with (first | ((with_reducible refine gate_dst (N := 4) rfl ?_); (try (refine gate_guard (by rfl) ?_; dsimp only)); refine bx_ (N := 4) (cs := #[.string (⟨#[]⟩ : ByteArray), .slice none 0 0, .bool false, .slice none 0 0, .int .i64 0]) (t := 25) ?_; intro gb134 hg w71 hbox hb; refine cut4_ (below_step (bl_ HB.out) hb) (hbox) (bz_ (w := w) hg (bl_ HB.out)) (bz_ (w := w) hg (bl_ HB.out)) ?_; clear HB; intro HB BK134 GW134 GE134; clear hb hbox hg; obtain ⟨hcz72_0, hcz72_1, hcz72_2, hcz72_3, hcz72_4, hfz72_0, hfz72_1, hfz72_2, hfz72_3, hfz72_4⟩ := cq5_ BK134.out) | ((with_reducible refine gate_callee (f := 45) rfl ?_); refine gk_ (some 19) Tryz.func45 (salchowref09_Valid.calls k1 1 ((rd_T41 l0 x3_1).f0) 0 0 false _ ?side1 A4.out) ?_; (case side1 => exact Gl.below hG (bl1_ HB.out GE134.out)); rintro e w73 ⟨rfl, hb⟩; refine ⟨_, rfl, ?_⟩; refine cut2_ (blk_below (g := gb134) (o := .cells #[.string ((rd_T41 l0 x3_1).f0), .slice A133_1 ((rd_T41 l0 x3_1).f1).length c133_1, .bool ((rd_T41 l0 x3_1).f2), .slice A133_3 ((rd_T41 l0 x3_1).f3).length c133_3, .int .i64 ((rd_T41 l0 x3_1).f4)] 25 (0, 0)) (put5_ (bk_ BK134.out)) hb) (below_step (bl1_ HB.out GE134.out) hb) ?_; clear hb BK134 HB; intro BK134 HB))
   go_ret
   exact ⟨er_, bl1_ HB.out GE134.out⟩
  obtain ⟨bq6, hbq6⟩ : ∃ b_ : Bool, b_ = ((rd_T41 l0 x3_1).f2) := ⟨_, rfl⟩; replace H : (if (bq6 = true) then ((salchowref10_formed.f k1 ((rd_T41 l0 x3_1).f3)).bind fun t136 => (if t136 = true then (salchowref10_formed.l1 k1 l0 x3_1 0 ((rd_T41 l0 x3_1).f0) ((rd_T41 l0 x3_1).f1) bq6 ((rd_T41 l0 x3_1).f3) ((rd_T41 l0 x3_1).f4)) else (some false))) else (if (((rd_T41 l0 x3_1).f3).length : Int) > 0 then (some false) else ((salchowref10_formed.f k1 ((rd_T41 l0 x3_1).f3)).bind fun t141 => (if t141 = true then (salchowref10_formed.l1 k1 l0 x3_1 0 ((rd_T41 l0 x3_1).f0) ((rd_T41 l0 x3_1).f1) bq6 ((rd_T41 l0 x3_1).f3) ((rd_T41 l0 x3_1).f4)) else (some false))))) = some r := by rw [← hbq6] at H; exact H
  have Nbq6 := Aside0.mk hbq6; clear hbq6
  by_cases c7 : (bq6 = true)
  ·
   subst c7; have H1 : ((salchowref10_formed.f k1 ((rd_T41 l0 x3_1).f3)).bind fun t136 => (if t136 = true then (salchowref10_formed.l1 k1 l0 x3_1 0 ((rd_T41 l0 x3_1).f0) ((rd_T41 l0 x3_1).f1) true ((rd_T41 l0 x3_1).f3) ((rd_T41 l0 x3_1).f4)) else (some false))) = some r := by rw [if_pos rfl] at H; exact H
   clear H; have H := H1; clear H1; replace H := bn_ H; obtain ⟨t136, A8, H⟩ := H; (try dsimp only at H); replace H := (sb_ H).symm; obtain ⟨rfl, H⟩ | ⟨rfl, H⟩ := H
   ·
    obtain rfl := Option.some.inj H; have p133 : 0 ≤ (x3_1 : Int) := dt_; have q133 : x3_1 < (l0.length : Int) := dt_; obtain ⟨ad133, A133_1, c133_1, A133_3, c133_3, e133, hx133_0, hx133_1, hx133_2, hx133_3, hx133_4, hl133_1, hi133_1, hl133_3, hi133_3⟩ := at_T41 HR0.out x3_1 p133 q133; (try rw [← Nbq6.out] at hx133_2); cases e133; replace hx133_0 := pw_cell_below HB.out hx133_0; replace hx133_1 := pw_cell_below HB.out hx133_1; replace hx133_2 := pw_cell_below HB.out hx133_2; replace hx133_3 := pw_cell_below HB.out hx133_3; replace hx133_4 := pw_cell_below HB.out hx133_4; have HR133_1 := Aside0.mk hi133_1; have HC133_1 := Aside0.mk hl133_1; clear hi133_1 hl133_1; have HR133_3 := Aside0.mk hi133_3; have HC133_3 := Aside0.mk hl133_3; clear hi133_3 hl133_3; replace p133 := eq_true p133; replace q133 := eq_true q133
    go_wp2_with (first | ((with_reducible refine gate_dst (N := 4) rfl ?_); (try (refine gate_guard (by rfl) ?_; dsimp only)); refine bx_ (N := 4) (cs := #[.string (⟨#[]⟩ : ByteArray), .slice none 0 0, .bool false, .slice none 0 0, .int .i64 0]) (t := 25) ?_; intro gb134 hg w32 hbox hb; refine cut4_ (below_step (bl_ HB.out) hb) (hbox) (bz_ (w := w) hg (bl_ HB.out)) (bz_ (w := w) hg (bl_ HB.out)) ?_; clear HB; intro HB BK134 GW134 GE134; clear hb hbox hg; obtain ⟨hcz33_0, hcz33_1, hcz33_2, hcz33_3, hcz33_4, hfz33_0, hfz33_1, hfz33_2, hfz33_3, hfz33_4⟩ := cq5_ BK134.out) | ((with_reducible refine gate_callee (f := 45) rfl ?_); refine gk_ (some 19) Tryz.func45 (salchowref09_Valid.calls k1 1 ((rd_T41 l0 x3_1).f0) 0 0 true _ ?side1 A4.out) ?_; (case side1 => exact Gl.below hG (bl1_ HB.out GE134.out)); rintro e w34 ⟨rfl, hb⟩; refine ⟨_, rfl, ?_⟩; refine cut2_ (blk_below (g := gb134) (o := .cells #[.string ((rd_T41 l0 x3_1).f0), .slice A133_1 ((rd_T41 l0 x3_1).f1).length c133_1, .bool true, .slice A133_3 ((rd_T41 l0 x3_1).f3).length c133_3, .int .i64 ((rd_T41 l0 x3_1).f4)] 25 (0, 0)) (put5_ (bk_ BK134.out)) hb) (below_step (bl1_ HB.out GE134.out) hb) ?_; clear hb BK134 HB; intro BK134 HB; obtain ⟨hcz35_0, hcz35_1, hcz35_2, hcz35_3, hcz35_4, hfz35_0, hfz35_1, hfz35_2, hfz35_3, hfz35_4⟩ := cq5_ BK134.out) | (go_at_call 24; (with_reducible refine (ih k1 (by have := HK1.out; omega) _ _ ((rd_T41 l0 x3_1).f3) false _ ?side1 ?side2 ?side3 A8.out).mono ?_); (case side1 => exact Gl.below hG (bl1_ HB.out GE134.out)); (case side2 => repeat (first | exact (Kd.C_below HR133_3.out HB.out) | (with_reducible refine Kd.C_alloc ?_ _) | (with_reducible refine Kd.C_drewN ?_ _) | (with_reducible refine Kd.C_drew ?_))); (case side3 => exact HC133_3.out); rintro e w36 ⟨rfl, hb⟩; refine cut2_ (bb_ BK134.out hb) (below_step (bl1_ HB.out GE134.out) hb) ?_; clear BK134 HB; intro BK134 HB; (try clear hb); (try clear hb2); (try clear hk); (try clear hi)))
    go_ret
    exact ⟨er_, bl1_ HB.out GE134.out⟩
   have H' := Aside0.mk H; clear H; have p133 : 0 ≤ (x3_1 : Int) := dt_; have q133 : x3_1 < (l0.length : Int) := dt_; obtain ⟨ad133, A133_1, c133_1, A133_3, c133_3, e133, hx133_0, hx133_1, hx133_2, hx133_3, hx133_4, hl133_1, hi133_1, hl133_3, hi133_3⟩ := at_T41 HR0.out x3_1 p133 q133; (try rw [← Nbq6.out] at hx133_2); cases e133; replace hx133_0 := pw_cell_below HB.out hx133_0; replace hx133_1 := pw_cell_below HB.out hx133_1; replace hx133_2 := pw_cell_below HB.out hx133_2; replace hx133_3 := pw_cell_below HB.out hx133_3; replace hx133_4 := pw_cell_below HB.out hx133_4; have HR133_1 := Aside0.mk hi133_1; have HC133_1 := Aside0.mk hl133_1; clear hi133_1 hl133_1; have HR133_3 := Aside0.mk hi133_3; have HC133_3 := Aside0.mk hl133_3; clear hi133_3 hl133_3; replace p133 := eq_true p133; replace q133 := eq_true q133
   go_wp2_with (first | ((with_reducible refine gate_dst (N := 4) rfl ?_); (try (refine gate_guard (by rfl) ?_; dsimp only)); refine bx_ (N := 4) (cs := #[.string (⟨#[]⟩ : ByteArray), .slice none 0 0, .bool false, .slice none 0 0, .int .i64 0]) (t := 25) ?_; intro gb134 hg w10 hbox hb; refine cut4_ (below_step (bl_ HB.out) hb) (hbox) (bz_ (w := w) hg (bl_ HB.out)) (bz_ (w := w) hg (bl_ HB.out)) ?_; clear HB; intro HB BK134 GW134 GE134; clear hb hbox hg; obtain ⟨hcz11_0, hcz11_1, hcz11_2, hcz11_3, hcz11_4, hfz11_0, hfz11_1, hfz11_2, hfz11_3, hfz11_4⟩ := cq5_ BK134.out) | ((with_reducible refine gate_callee (f := 45) rfl ?_); refine gk_ (some 19) Tryz.func45 (salchowref09_Valid.calls k1 1 ((rd_T41 l0 x3_1).f0) 0 0 true _ ?side1 A4.out) ?_; (case side1 => exact Gl.below hG (bl1_ HB.out GE134.out)); rintro e w12 ⟨rfl, hb⟩; refine ⟨_, rfl, ?_⟩; refine cut2_ (blk_below (g := gb134) (o := .cells #[.string ((rd_T41 l0 x3_1).f0), .slice A133_1 ((rd_T41 l0 x3_1).f1).length c133_1, .bool true, .slice A133_3 ((rd_T41 l0 x3_1).f3).length c133_3, .int .i64 ((rd_T41 l0 x3_1).f4)] 25 (0, 0)) (put5_ (bk_ BK134.out)) hb) (below_step (bl1_ HB.out GE134.out) hb) ?_; clear hb BK134 HB; intro BK134 HB; obtain ⟨hcz13_0, hcz13_1, hcz13_2, hcz13_3, hcz13_4, hfz13_0, hfz13_1, hfz13_2, hfz13_3, hfz13_4⟩ := cq5_ BK134.out) | (go_at_call 24; (with_reducible refine (ih k1 (by have := HK1.out; omega) _ _ ((rd_T41 l0 x3_1).f3) true _ ?side1 ?side2 ?side3 A8.out).mono ?_); (case side1 => exact Gl.below hG (bl1_ HB.out GE134.out)); (case side2 => repeat (first | exact (Kd.C_below HR133_3.out HB.out) | (with_reducible refine Kd.C_alloc ?_ _) | (with_reducible refine Kd.C_drewN ?_ _) | (with_reducible refine Kd.C_drew ?_))); (case side3 => exact HC133_3.out); rintro e w14 ⟨rfl, hb⟩; refine cut2_ (bb_ BK134.out hb) (below_step (bl1_ HB.out GE134.out) hb) ?_; clear BK134 HB; intro BK134 HB; (try clear hb); (try clear hb2); (try clear hk); (try clear hi)))
   go_loopg [5] k1 (fun kq v5 w' => ∃ (x5_2 : Int), v5 = .int .i64 x5_2 ∧ Aside0 (salchowref10_formed.l1 kq l0 x3_1 x5_2 ((rd_T41 l0 x3_1).f0) ((rd_T41 l0 x3_1).f1) true ((rd_T41 l0 x3_1).f3) ((rd_T41 l0 x3_1).f4) = some r) ∧ Aside0 (kq ≤ k1) ∧ Aside0 (w'.heap[gb134]? = some (.cells #[.string ((rd_T41 l0 x3_1).f0), (.slice A133_1 ((rd_T41 l0 x3_1).f1).length c133_1), .bool true, (.slice A133_3 ((rd_T41 l0 x3_1).f3).length c133_3), .int .i64 ((rd_T41 l0 x3_1).f4)] 25 (0, 0))) ∧ Aside0 (Below w.heap.size w w'))
   case atStart => exact ⟨(0), sr_, H', ⟨Nat.le_refl _⟩, ⟨bk_ BK134.out⟩, ⟨bl1_ HB.out GE134.out⟩⟩
   case round =>
    clear H'; (try clear c2); (try clear c2b0); (try clear c3); (try clear c3b0); (try clear c5); (try clear c7); (try clear c9); (try clear hcz11_0); (try clear hcz11_1); (try clear hcz11_2); (try clear hcz11_3); (try clear hcz11_4); (try clear hcz13_0); (try clear hcz13_1); (try clear hcz13_2); (try clear hcz13_3); (try clear hcz13_4); (try clear hfz11_0); (try clear hfz11_1); (try clear hfz11_2); (try clear hfz11_3); (try clear hfz11_4); (try clear hfz13_0); (try clear hfz13_1); (try clear hfz13_2); (try clear hfz13_3); (try clear hfz13_4); (try clear hx133_0); (try clear hx133_1); (try clear hx133_2); (try clear hx133_3); (try clear hx133_4); (try clear p133); (try clear q133); obtain ⟨x5_2, rfl, HA, HK2, BK134, HB⟩ := hrel; obtain _ | k2 := gk
    · exact absurd HA.out (by simp [salchowref10_formed.l1])
    have H := HA.out; clear HA; simp only [salchowref10_formed.l1] at H; replace H := (sd_ H).symm; obtain ⟨c15b0, H⟩ | ⟨c15b0, H⟩ := H
    ·
     have H' := Aside0.mk H; clear H; obtain ⟨hcz31_0, hcz31_1, hcz31_2, hcz31_3, hcz31_4, hfz31_0, hfz31_1, hfz31_2, hfz31_3, hfz31_4⟩ := cq5_ BK134.out
     go_wp2
     go_roundg k2
     case measure => have := HK1.out; have := HK2.out; omega
     case rel => exact ⟨(wrap64 (x3_1 + 1)), sr_, H', ⟨by have := HK1.out; have := HK2.out; omega⟩, ⟨bl1_ HB.out GE134.out⟩⟩
    replace H := gd_ H; obtain ⟨c16b0, H⟩ := H; replace H := bn_ H; obtain ⟨t138, A17, H⟩ := H; (try dsimp only at H); replace H := (sb_ H).symm; obtain ⟨rfl, H⟩ | ⟨rfl, H⟩ := H
    ·
     obtain rfl := Option.some.inj H; obtain ⟨hcz29_0, hcz29_1, hcz29_2, hcz29_3, hcz29_4, hfz29_0, hfz29_1, hfz29_2, hfz29_3, hfz29_4⟩ := cq5_ BK134.out; have p137 : 0 ≤ (x5_2 : Int) := dt_; have q137 : x5_2 < (((rd_T41 l0 x3_1).f1).length : Int) := dt_; obtain ⟨ad137, e137, hx137_0, hx137_1, hx137_2, hx137_3⟩ := at_T46 HR133_1.out x5_2 p137 q137; cases e137; replace hx137_0 := pw_cell_below HB.out hx137_0; replace hx137_1 := pw_cell_below HB.out hx137_1; replace hx137_2 := pw_cell_below HB.out hx137_2; replace hx137_3 := pw_cell_below HB.out hx137_3; replace p137 := eq_true p137; replace q137 := eq_true q137
     go_wp2_with (first | ((with_reducible refine gate_callee (f := 46) rfl ?_); refine gk_ (some 50) Tryz.func46 (salchowref10_atom.calls ((rd_T46 ((rd_T41 l0 x3_1).f1) x5_2).f0) ((rd_T46 ((rd_T41 l0 x3_1).f1) x5_2).f1) ((rd_T46 ((rd_T41 l0 x3_1).f1) x5_2).f2) ((rd_T46 ((rd_T41 l0 x3_1).f1) x5_2).f3) false _ A17.out) ?_; rintro e w30 ⟨rfl, hb⟩; refine ⟨_, rfl, ?_⟩; refine cut2_ (bb_ BK134.out hb) (below_step (bl1_ HB.out GE134.out) hb) ?_; clear hb BK134 HB; intro BK134 HB))
     go_ret
     exact ⟨er_, bl1_ HB.out GE134.out⟩
    replace H := bn_ H; obtain ⟨t140, A19, H⟩ := H; (try dsimp only at H); replace H := (sb_ H).symm; obtain ⟨rfl, H⟩ | ⟨rfl, H⟩ := H
    ·
     obtain rfl := Option.some.inj H; obtain ⟨hcz25_0, hcz25_1, hcz25_2, hcz25_3, hcz25_4, hfz25_0, hfz25_1, hfz25_2, hfz25_3, hfz25_4⟩ := cq5_ BK134.out; have p137 : 0 ≤ (x5_2 : Int) := dt_; have q137 : x5_2 < (((rd_T41 l0 x3_1).f1).length : Int) := dt_; obtain ⟨ad137, e137, hx137_0, hx137_1, hx137_2, hx137_3⟩ := at_T46 HR133_1.out x5_2 p137 q137; cases e137; replace hx137_0 := pw_cell_below HB.out hx137_0; replace hx137_1 := pw_cell_below HB.out hx137_1; replace hx137_2 := pw_cell_below HB.out hx137_2; replace hx137_3 := pw_cell_below HB.out hx137_3; replace p137 := eq_true p137; replace q137 := eq_true q137
     go_wp2_with (first | ((with_reducible refine gate_callee (f := 46) rfl ?_); refine gk_ (some 50) Tryz.func46 (salchowref10_atom.calls ((rd_T46 ((rd_T41 l0 x3_1).f1) x5_2).f0) ((rd_T46 ((rd_T41 l0 x3_1).f1) x5_2).f1) ((rd_T46 ((rd_T41 l0 x3_1).f1) x5_2).f2) ((rd_T46 ((rd_T41 l0 x3_1).f1) x5_2).f3) true _ A17.out) ?_; rintro e w26 ⟨rfl, hb⟩; refine ⟨_, rfl, ?_⟩; refine cut2_ (bb_ BK134.out hb) (below_step (bl1_ HB.out GE134.out) hb) ?_; clear hb BK134 HB; intro BK134 HB; obtain ⟨hcz27_0, hcz27_1, hcz27_2, hcz27_3, hcz27_4, hfz27_0, hfz27_1, hfz27_2, hfz27_3, hfz27_4⟩ := cq5_ BK134.out; have p139 : 0 ≤ (x5_2 : Int) := dt_; have q139 : x5_2 < (((rd_T41 l0 x3_1).f1).length : Int) := dt_; obtain ⟨ad139, e139, hx139_0, hx139_1, hx139_2, hx139_3⟩ := at_T46 HR133_1.out x5_2 p139 q139; obtain rfl : ad137 = ad139 := (by injection e139); replace hx139_0 := pw_cell_below HB.out hx139_0; replace hx139_1 := pw_cell_below HB.out hx139_1; replace hx139_2 := pw_cell_below HB.out hx139_2; replace hx139_3 := pw_cell_below HB.out hx139_3; replace p139 := eq_true p139; replace q139 := eq_true q139) | (go_at_call 45; (with_reducible refine (salchowref09_Valid.calls k2 ((rd_T46 ((rd_T41 l0 x3_1).f1) x5_2).f0) ((rd_T46 ((rd_T41 l0 x3_1).f1) x5_2).f1) ((rd_T46 ((rd_T41 l0 x3_1).f1) x5_2).f2) ((rd_T46 ((rd_T41 l0 x3_1).f1) x5_2).f3) false _ ?side1 A19.out).mono ?_); (case side1 => exact Gl.below hG (bl1_ HB.out GE134.out)); rintro e w28 ⟨rfl, hb⟩; refine cut2_ (bb_ BK134.out hb) (below_step (bl1_ HB.out GE134.out) hb) ?_; clear BK134 HB; intro BK134 HB; (try clear hb); (try clear hb2); (try clear hk); (try clear hi)))
     go_ret
     exact ⟨er_, bl1_ HB.out GE134.out⟩
    have H' := Aside0.mk H; clear H; obtain ⟨hcz21_0, hcz21_1, hcz21_2, hcz21_3, hcz21_4, hfz21_0, hfz21_1, hfz21_2, hfz21_3, hfz21_4⟩ := cq5_ BK134.out; have p137 : 0 ≤ (x5_2 : Int) := dt_; have q137 : x5_2 < (((rd_T41 l0 x3_1).f1).length : Int) := dt_; obtain ⟨ad137, e137, hx137_0, hx137_1, hx137_2, hx137_3⟩ := at_T46 HR133_1.out x5_2 p137 q137; cases e137; replace hx137_0 := pw_cell_below HB.out hx137_0; replace hx137_1 := pw_cell_below HB.out hx137_1; replace hx137_2 := pw_cell_below HB.out hx137_2; replace hx137_3 := pw_cell_below HB.out hx137_3; replace p137 := eq_true p137; replace q137 := eq_true q137
    go_wp2_with (first | ((with_reducible refine gate_callee (f := 46) rfl ?_); refine gk_ (some 50) Tryz.func46 (salchowref10_atom.calls ((rd_T46 ((rd_T41 l0 x3_1).f1) x5_2).f0) ((rd_T46 ((rd_T41 l0 x3_1).f1) x5_2).f1) ((rd_T46 ((rd_T41 l0 x3_1).f1) x5_2).f2) ((rd_T46 ((rd_T41 l0 x3_1).f1) x5_2).f3) true _ A17.out) ?_; rintro e w22 ⟨rfl, hb⟩; refine ⟨_, rfl, ?_⟩; refine cut2_ (bb_ BK134.out hb) (below_step (bl1_ HB.out GE134.out) hb) ?_; clear hb BK134 HB; intro BK134 HB; obtain ⟨hcz23_0, hcz23_1, hcz23_2, hcz23_3, hcz23_4, hfz23_0, hfz23_1, hfz23_2, hfz23_3, hfz23_4⟩ := cq5_ BK134.out; have p139 : 0 ≤ (x5_2 : Int) := dt_; have q139 : x5_2 < (((rd_T41 l0 x3_1).f1).length : Int) := dt_; obtain ⟨ad139, e139, hx139_0, hx139_1, hx139_2, hx139_3⟩ := at_T46 HR133_1.out x5_2 p139 q139; obtain rfl : ad137 = ad139 := (by injection e139); replace hx139_0 := pw_cell_below HB.out hx139_0; replace hx139_1 := pw_cell_below HB.out hx139_1; replace hx139_2 := pw_cell_below HB.out hx139_2; replace hx139_3 := pw_cell_below HB.out hx139_3; replace p139 := eq_true p139; replace q139 := eq_true q139) | (go_at_call 45; (with_reducible refine (salchowref09_Valid.calls k2 ((rd_T46 ((rd_T41 l0 x3_1).f1) x5_2).f0) ((rd_T46 ((rd_T41 l0 x3_1).f1) x5_2).f1) ((rd_T46 ((rd_T41 l0 x3_1).f1) x5_2).f2) ((rd_T46 ((rd_T41 l0 x3_1).f1) x5_2).f3) true _ ?side1 A19.out).mono ?_); (case side1 => exact Gl.below hG (bl1_ HB.out GE134.out)); rintro e w24 ⟨rfl, hb⟩; refine cut2_ (bb_ BK134.out hb) (below_step (bl1_ HB.out GE134.out) hb) ?_; clear BK134 HB; intro BK134 HB; (try clear hb); (try clear hb2); (try clear hk); (try clear hi)))
    go_roundg k2
    case measure => have := HK1.out; have := HK2.out; omega
    case rel => exact ⟨(wrap64 (x5_2 + 1)), sr_, H', ⟨by have := HK1.out; have := HK2.out; omega⟩, ⟨bk_ BK134.out⟩, ⟨bl1_ HB.out GE134.out⟩⟩
  replace c7 := Bool.eq_false_iff.mpr c7; subst c7; have H1 : (if (((rd_T41 l0 x3_1).f3).length : Int) > 0 then (some false) else ((salchowref10_formed.f k1 ((rd_T41 l0 x3_1).f3)).bind fun t141 => (if t141 = true then (salchowref10_formed.l1 k1 l0 x3_1 0 ((rd_T41 l0 x3_1).f0) ((rd_T41 l0 x3_1).f1) false ((rd_T41 l0 x3_1).f3) ((rd_T41 l0 x3_1).f4)) else (some false)))) = some r := by rw [if_neg (show ¬ (false = true) by decide)] at H; exact H
  clear H; have H := H1; clear H1; replace H := sp_ H; obtain ⟨c37, H⟩ | ⟨c37, H⟩ := H
  ·
   have c37b0 := decide_eq_true c37; have c37b1 : decide (0 < ((rd_T41 l0 x3_1).f3).length) = true := decide_eq_true (by omega); clear c37; obtain rfl := Option.some.inj H; have p133 : 0 ≤ (x3_1 : Int) := dt_; have q133 : x3_1 < (l0.length : Int) := dt_; obtain ⟨ad133, A133_1, c133_1, A133_3, c133_3, e133, hx133_0, hx133_1, hx133_2, hx133_3, hx133_4, hl133_1, hi133_1, hl133_3, hi133_3⟩ := at_T41 HR0.out x3_1 p133 q133; (try rw [← Nbq6.out] at hx133_2); cases e133; replace hx133_0 := pw_cell_below HB.out hx133_0; replace hx133_1 := pw_cell_below HB.out hx133_1; replace hx133_2 := pw_cell_below HB.out hx133_2; replace hx133_3 := pw_cell_below HB.out hx133_3; replace hx133_4 := pw_cell_below HB.out hx133_4; have HR133_1 := Aside0.mk hi133_1; have HC133_1 := Aside0.mk hl133_1; clear hi133_1 hl133_1; have HR133_3 := Aside0.mk hi133_3; have HC133_3 := Aside0.mk hl133_3; clear hi133_3 hl133_3; replace p133 := eq_true p133; replace q133 := eq_true q133
   go_wp2_with (first | ((with_reducible refine gate_dst (N := 4) rfl ?_); (try (refine gate_guard (by rfl) ?_; dsimp only)); refine bx_ (N := 4) (cs := #[.string (⟨#[]⟩ : ByteArray), .slice none 0 0, .bool false, .slice none 0 0, .int .i64 0]) (t := 25) ?_; intro gb134 hg w38 hbox hb; refine cut4_ (below_step (bl_ HB.out) hb) (hbox) (bz_ (w := w) hg (bl_ HB.out)) (bz_ (w := w) hg (bl_ HB.out)) ?_; clear HB; intro HB BK134 GW134 GE134; clear hb hbox hg; obtain ⟨hcz39_0, hcz39_1, hcz39_2, hcz39_3, hcz39_4, hfz39_0, hfz39_1, hfz39_2, hfz39_3, hfz39_4⟩ := cq5_ BK134.out) | ((with_reducible refine gate_callee (f := 45) rfl ?_); refine gk_ (some 19) Tryz.func45 (salchowref09_Valid.calls k1 1 ((rd_T41 l0 x3_1).f0) 0 0 true _ ?side1 A4.out) ?_; (case side1 => exact Gl.below hG (bl1_ HB.out GE134.out)); rintro e w40 ⟨rfl, hb⟩; refine ⟨_, rfl, ?_⟩; refine cut2_ (blk_below (g := gb134) (o := .cells #[.string ((rd_T41 l0 x3_1).f0), .slice A133_1 ((rd_T41 l0 x3_1).f1).length c133_1, .bool false, .slice A133_3 ((rd_T41 l0 x3_1).f3).length c133_3, .int .i64 ((rd_T41 l0 x3_1).f4)] 25 (0, 0)) (put5_ (bk_ BK134.out)) hb) (below_step (bl1_ HB.out GE134.out) hb) ?_; clear hb BK134 HB; intro BK134 HB; obtain ⟨hcz41_0, hcz41_1, hcz41_2, hcz41_3, hcz41_4, hfz41_0, hfz41_1, hfz41_2, hfz41_3, hfz41_4⟩ := cq5_ BK134.out))
   go_ret
   exact ⟨er_, bl1_ HB.out GE134.out⟩
  have c37b0 := decide_eq_false c37; have c37b1 : decide (0 < ((rd_T41 l0 x3_1).f3).length) = false := decide_eq_false (by omega); clear c37; replace H := bn_ H; obtain ⟨t141, A42, H⟩ := H; (try dsimp only at H); replace H := (sb_ H).symm; obtain ⟨rfl, H⟩ | ⟨rfl, H⟩ := H
  ·
   obtain rfl := Option.some.inj H; have p133 : 0 ≤ (x3_1 : Int) := dt_; have q133 : x3_1 < (l0.length : Int) := dt_; obtain ⟨ad133, A133_1, c133_1, A133_3, c133_3, e133, hx133_0, hx133_1, hx133_2, hx133_3, hx133_4, hl133_1, hi133_1, hl133_3, hi133_3⟩ := at_T41 HR0.out x3_1 p133 q133; (try rw [← Nbq6.out] at hx133_2); cases e133; replace hx133_0 := pw_cell_below HB.out hx133_0; replace hx133_1 := pw_cell_below HB.out hx133_1; replace hx133_2 := pw_cell_below HB.out hx133_2; replace hx133_3 := pw_cell_below HB.out hx133_3; replace hx133_4 := pw_cell_below HB.out hx133_4; have HR133_1 := Aside0.mk hi133_1; have HC133_1 := Aside0.mk hl133_1; clear hi133_1 hl133_1; have HR133_3 := Aside0.mk hi133_3; have HC133_3 := Aside0.mk hl133_3; clear hi133_3 hl133_3; replace p133 := eq_true p133; replace q133 := eq_true q133
   go_wp2_with (first | ((with_reducible refine gate_dst (N := 4) rfl ?_); (try (refine gate_guard (by rfl) ?_; dsimp only)); refine bx_ (N := 4) (cs := #[.string (⟨#[]⟩ : ByteArray), .slice none 0 0, .bool false, .slice none 0 0, .int .i64 0]) (t := 25) ?_; intro gb134 hg w66 hbox hb; refine cut4_ (below_step (bl_ HB.out) hb) (hbox) (bz_ (w := w) hg (bl_ HB.out)) (bz_ (w := w) hg (bl_ HB.out)) ?_; clear HB; intro HB BK134 GW134 GE134; clear hb hbox hg; obtain ⟨hcz67_0, hcz67_1, hcz67_2, hcz67_3, hcz67_4, hfz67_0, hfz67_1, hfz67_2, hfz67_3, hfz67_4⟩ := cq5_ BK134.out) | ((with_reducible refine gate_callee (f := 45) rfl ?_); refine gk_ (some 19) Tryz.func45 (salchowref09_Valid.calls k1 1 ((rd_T41 l0 x3_1).f0) 0 0 true _ ?side1 A4.out) ?_; (case side1 => exact Gl.below hG (bl1_ HB.out GE134.out)); rintro e w68 ⟨rfl, hb⟩; refine ⟨_, rfl, ?_⟩; refine cut2_ (blk_below (g := gb134) (o := .cells #[.string ((rd_T41 l0 x3_1).f0), .slice A133_1 ((rd_T41 l0 x3_1).f1).length c133_1, .bool false, .slice A133_3 ((rd_T41 l0 x3_1).f3).length c133_3, .int .i64 ((rd_T41 l0 x3_1).f4)] 25 (0, 0)) (put5_ (bk_ BK134.out)) hb) (below_step (bl1_ HB.out GE134.out) hb) ?_; clear hb BK134 HB; intro BK134 HB; obtain ⟨hcz69_0, hcz69_1, hcz69_2, hcz69_3, hcz69_4, hfz69_0, hfz69_1, hfz69_2, hfz69_3, hfz69_4⟩ := cq5_ BK134.out) | (go_at_call 24; (with_reducible refine (ih k1 (by have := HK1.out; omega) _ _ ((rd_T41 l0 x3_1).f3) false _ ?side1 ?side2 ?side3 A42.out).mono ?_); (case side1 => exact Gl.below hG (bl1_ HB.out GE134.out)); (case side2 => repeat (first | exact (Kd.C_below HR133_3.out HB.out) | (with_reducible refine Kd.C_alloc ?_ _) | (with_reducible refine Kd.C_drewN ?_ _) | (with_reducible refine Kd.C_drew ?_))); (case side3 => exact HC133_3.out); rintro e w70 ⟨rfl, hb⟩; refine cut2_ (bb_ BK134.out hb) (below_step (bl1_ HB.out GE134.out) hb) ?_; clear BK134 HB; intro BK134 HB; (try clear hb); (try clear hb2); (try clear hk); (try clear hi)))
   go_ret
   exact ⟨er_, bl1_ HB.out GE134.out⟩
  have H' := Aside0.mk H; clear H; have p133 : 0 ≤ (x3_1 : Int) := dt_; have q133 : x3_1 < (l0.length : Int) := dt_; obtain ⟨ad133, A133_1, c133_1, A133_3, c133_3, e133, hx133_0, hx133_1, hx133_2, hx133_3, hx133_4, hl133_1, hi133_1, hl133_3, hi133_3⟩ := at_T41 HR0.out x3_1 p133 q133; (try rw [← Nbq6.out] at hx133_2); cases e133; replace hx133_0 := pw_cell_below HB.out hx133_0; replace hx133_1 := pw_cell_below HB.out hx133_1; replace hx133_2 := pw_cell_below HB.out hx133_2; replace hx133_3 := pw_cell_below HB.out hx133_3; replace hx133_4 := pw_cell_below HB.out hx133_4; have HR133_1 := Aside0.mk hi133_1; have HC133_1 := Aside0.mk hl133_1; clear hi133_1 hl133_1; have HR133_3 := Aside0.mk hi133_3; have HC133_3 := Aside0.mk hl133_3; clear hi133_3 hl133_3; replace p133 := eq_true p133; replace q133 := eq_true q133
  go_wp2_with (first | ((with_reducible refine gate_dst (N := 4) rfl ?_); (try (refine gate_guard (by rfl) ?_; dsimp only)); refine bx_ (N := 4) (cs := #[.string (⟨#[]⟩ : ByteArray), .slice none 0 0, .bool false, .slice none 0 0, .int .i64 0]) (t := 25) ?_; intro gb134 hg w44 hbox hb; refine cut4_ (below_step (bl_ HB.out) hb) (hbox) (bz_ (w := w) hg (bl_ HB.out)) (bz_ (w := w) hg (bl_ HB.out)) ?_; clear HB; intro HB BK134 GW134 GE134; clear hb hbox hg; obtain ⟨hcz45_0, hcz45_1, hcz45_2, hcz45_3, hcz45_4, hfz45_0, hfz45_1, hfz45_2, hfz45_3, hfz45_4⟩ := cq5_ BK134.out) | ((with_reducible refine gate_callee (f := 45) rfl ?_); refine gk_ (some 19) Tryz.func45 (salchowref09_Valid.calls k1 1 ((rd_T41 l0 x3_1).f0) 0 0 true _ ?side1 A4.out) ?_; (case side1 => exact Gl.below hG (bl1_ HB.out GE134.out)); rintro e w46 ⟨rfl, hb⟩; refine ⟨_, rfl, ?_⟩; refine cut2_ (blk_below (g := gb134) (o := .cells #[.string ((rd_T41 l0 x3_1).f0), .slice A133_1 ((rd_T41 l0 x3_1).f1).length c133_1, .bool false, .slice A133_3 ((rd_T41 l0 x3_1).f3).length c133_3, .int .i64 ((rd_T41 l0 x3_1).f4)] 25 (0, 0)) (put5_ (bk_ BK134.out)) hb) (below_step (bl1_ HB.out GE134.out) hb) ?_; clear hb BK134 HB; intro BK134 HB; obtain ⟨hcz47_0, hcz47_1, hcz47_2, hcz47_3, hcz47_4, hfz47_0, hfz47_1, hfz47_2, hfz47_3, hfz47_4⟩ := cq5_ BK134.out) | (go_at_call 24; (with_reducible refine (ih k1 (by have := HK1.out; omega) _ _ ((rd_T41 l0 x3_1).f3) true _ ?side1 ?side2 ?side3 A42.out).mono ?_); (case side1 => exact Gl.below hG (bl1_ HB.out GE134.out)); (case side2 => repeat (first | exact (Kd.C_below HR133_3.out HB.out) | (with_reducible refine Kd.C_alloc ?_ _) | (with_reducible refine Kd.C_drewN ?_ _) | (with_reducible refine Kd.C_drew ?_))); (case side3 => exact HC133_3.out); rintro e w48 ⟨rfl, hb⟩; refine cut2_ (bb_ BK134.out hb) (below_step (bl1_ HB.out GE134.out) hb) ?_; clear BK134 HB; intro BK134 HB; (try clear hb); (try clear hb2); (try clear hk); (try clear hi)))
  go_loopg [5] k1 (fun kq v5 w' => ∃ (x5_2 : Int), v5 = .int .i64 x5_2 ∧ Aside0 (salchowref10_formed.l1 kq l0 x3_1 x5_2 ((rd_T41 l0 x3_1).f0) ((rd_T41 l0 x3_1).f1) false ((rd_T41 l0 x3_1).f3) ((rd_T41 l0 x3_1).f4) = some r) ∧ Aside0 (kq ≤ k1) ∧ Aside0 (w'.heap[gb134]? = some (.cells #[.string ((rd_T41 l0 x3_1).f0), (.slice A133_1 ((rd_T41 l0 x3_1).f1).length c133_1), .bool false, (.slice A133_3 ((rd_T41 l0 x3_1).f3).length c133_3), .int .i64 ((rd_T41 l0 x3_1).f4)] 25 (0, 0))) ∧ Aside0 (Below w.heap.size w w'))
  case atStart => exact ⟨(0), sr_, H', ⟨Nat.le_refl _⟩, ⟨bk_ BK134.out⟩, ⟨bl1_ HB.out GE134.out⟩⟩
  case round =>
   clear H'; (try clear c2); (try clear c2b0); (try clear c3); (try clear c3b0); (try clear c5); (try clear c7); (try clear c37); (try clear c37b0); (try clear c37b1); (try clear c43); (try clear hcz45_0); (try clear hcz45_1); (try clear hcz45_2); (try clear hcz45_3); (try clear hcz45_4); (try clear hcz47_0); (try clear hcz47_1); (try clear hcz47_2); (try clear hcz47_3); (try clear hcz47_4); (try clear hfz45_0); (try clear hfz45_1); (try clear hfz45_2); (try clear hfz45_3); (try clear hfz45_4); (try clear hfz47_0); (try clear hfz47_1); (try clear hfz47_2); (try clear hfz47_3); (try clear hfz47_4); (try clear hx133_0); (try clear hx133_1); (try clear hx133_2); (try clear hx133_3); (try clear hx133_4); (try clear p133); (try clear q133); obtain ⟨x5_2, rfl, HA, HK2, BK134, HB⟩ := hrel; obtain _ | k2 := gk
   · exact absurd HA.out (by simp [salchowref10_formed.l1])
   have H := HA.out; clear HA; simp only [salchowref10_formed.l1] at H; replace H := (sd_ H).symm; obtain ⟨c49b0, H⟩ | ⟨c49b0, H⟩ := H
   ·
    have H' := Aside0.mk H; clear H; obtain ⟨hcz65_0, hcz65_1, hcz65_2, hcz65_3, hcz65_4, hfz65_0, hfz65_1, hfz65_2, hfz65_3, hfz65_4⟩ := cq5_ BK134.out
    go_wp2
    go_roundg k2
    case measure => have := HK1.out; have := HK2.out; omega
    case rel => exact ⟨(wrap64 (x3_1 + 1)), sr_, H', ⟨by have := HK1.out; have := HK2.out; omega⟩, ⟨bl1_ HB.out GE134.out⟩⟩
   replace H := gd_ H; obtain ⟨c50b0, H⟩ := H; replace H := bn_ H; obtain ⟨t138, A51, H⟩ := H; (try dsimp only at H); replace H := (sb_ H).symm; obtain ⟨rfl, H⟩ | ⟨rfl, H⟩ := H
   ·
    obtain rfl := Option.some.inj H; obtain ⟨hcz63_0, hcz63_1, hcz63_2, hcz63_3, hcz63_4, hfz63_0, hfz63_1, hfz63_2, hfz63_3, hfz63_4⟩ := cq5_ BK134.out; have p137 : 0 ≤ (x5_2 : Int) := dt_; have q137 : x5_2 < (((rd_T41 l0 x3_1).f1).length : Int) := dt_; obtain ⟨ad137, e137, hx137_0, hx137_1, hx137_2, hx137_3⟩ := at_T46 HR133_1.out x5_2 p137 q137; cases e137; replace hx137_0 := pw_cell_below HB.out hx137_0; replace hx137_1 := pw_cell_below HB.out hx137_1; replace hx137_2 := pw_cell_below HB.out hx137_2; replace hx137_3 := pw_cell_below HB.out hx137_3; replace p137 := eq_true p137; replace q137 := eq_true q137
    go_wp2_with (first | ((with_reducible refine gate_callee (f := 46) rfl ?_); refine gk_ (some 50) Tryz.func46 (salchowref10_atom.calls ((rd_T46 ((rd_T41 l0 x3_1).f1) x5_2).f0) ((rd_T46 ((rd_T41 l0 x3_1).f1) x5_2).f1) ((rd_T46 ((rd_T41 l0 x3_1).f1) x5_2).f2) ((rd_T46 ((rd_T41 l0 x3_1).f1) x5_2).f3) false _ A51.out) ?_; rintro e w64 ⟨rfl, hb⟩; refine ⟨_, rfl, ?_⟩; refine cut2_ (bb_ BK134.out hb) (below_step (bl1_ HB.out GE134.out) hb) ?_; clear hb BK134 HB; intro BK134 HB))
    go_ret
    exact ⟨er_, bl1_ HB.out GE134.out⟩
   replace H := bn_ H; obtain ⟨t140, A53, H⟩ := H; (try dsimp only at H); replace H := (sb_ H).symm; obtain ⟨rfl, H⟩ | ⟨rfl, H⟩ := H
   ·
    obtain rfl := Option.some.inj H; obtain ⟨hcz59_0, hcz59_1, hcz59_2, hcz59_3, hcz59_4, hfz59_0, hfz59_1, hfz59_2, hfz59_3, hfz59_4⟩ := cq5_ BK134.out; have p137 : 0 ≤ (x5_2 : Int) := dt_; have q137 : x5_2 < (((rd_T41 l0 x3_1).f1).length : Int) := dt_; obtain ⟨ad137, e137, hx137_0, hx137_1, hx137_2, hx137_3⟩ := at_T46 HR133_1.out x5_2 p137 q137; cases e137; replace hx137_0 := pw_cell_below HB.out hx137_0; replace hx137_1 := pw_cell_below HB.out hx137_1; replace hx137_2 := pw_cell_below HB.out hx137_2; replace hx137_3 := pw_cell_below HB.out hx137_3; replace p137 := eq_true p137; replace q137 := eq_true q137
    go_wp2_with (first | ((with_reducible refine gate_callee (f := 46) rfl ?_); refine gk_ (some 50) Tryz.func46 (salchowref10_atom.calls ((rd_T46 ((rd_T41 l0 x3_1).f1) x5_2).f0) ((rd_T46 ((rd_T41 l0 x3_1).f1) x5_2).f1) ((rd_T46 ((rd_T41 l0 x3_1).f1) x5_2).f2) ((rd_T46 ((rd_T41 l0 x3_1).f1) x5_2).f3) true _ A51.out) ?_; rintro e w60 ⟨rfl, hb⟩; refine ⟨_, rfl, ?_⟩; refine cut2_ (bb_ BK134.out hb) (below_step (bl1_ HB.out GE134.out) hb) ?_; clear hb BK134 HB; intro BK134 HB; obtain ⟨hcz61_0, hcz61_1, hcz61_2, hcz61_3, hcz61_4, hfz61_0, hfz61_1, hfz61_2, hfz61_3, hfz61_4⟩ := cq5_ BK134.out; have p139 : 0 ≤ (x5_2 : Int) := dt_; have q139 : x5_2 < (((rd_T41 l0 x3_1).f1).length : Int) := dt_; obtain ⟨ad139, e139, hx139_0, hx139_1, hx139_2, hx139_3⟩ := at_T46 HR133_1.out x5_2 p139 q139; obtain rfl : ad137 = ad139 := (by injection e139); replace hx139_0 := pw_cell_below HB.out hx139_0; replace hx139_1 := pw_cell_below HB.out hx139_1; replace hx139_2 := pw_cell_below HB.out hx139_2; replace hx139_3 := pw_cell_below HB.out hx139_3; replace p139 := eq_true p139; replace q139 := eq_true q139) | (go_at_call 45; (with_reducible refine (salchowref09_Valid.calls k2 ((rd_T46 ((rd_T41 l0 x3_1).f1) x5_2).f0) ((rd_T46 ((rd_T41 l0 x3_1).f1) x5_2).f1) ((rd_T46 ((rd_T41 l0 x3_1).f1) x5_2).f2) ((rd_T46 ((rd_T41 l0 x3_1).f1) x5_2).f3) false _ ?side1 A53.out).mono ?_); (case side1 => exact Gl.below hG (bl1_ HB.out GE134.out)); rintro e w62 ⟨rfl, hb⟩; refine cut2_ (bb_ BK134.out hb) (below_step (bl1_ HB.out GE134.out) hb) ?_; clear BK134 HB; intro BK134 HB; (try clear hb); (try clear hb2); (try clear hk); (try clear hi)))
    go_ret
    exact ⟨er_, bl1_ HB.out GE134.out⟩
   have H' := Aside0.mk H; clear H; obtain ⟨hcz55_0, hcz55_1, hcz55_2, hcz55_3, hcz55_4, hfz55_0, hfz55_1, hfz55_2, hfz55_3, hfz55_4⟩ := cq5_ BK134.out; have p137 : 0 ≤ (x5_2 : Int) := dt_; have q137 : x5_2 < (((rd_T41 l0 x3_1).f1).length : Int) := dt_; obtain ⟨ad137, e137, hx137_0, hx137_1, hx137_2, hx137_3⟩ := at_T46 HR133_1.out x5_2 p137 q137; cases e137; replace hx137_0 := pw_cell_below HB.out hx137_0; replace hx137_1 := pw_cell_below HB.out hx137_1; replace hx137_2 := pw_cell_below HB.out hx137_2; replace hx137_3 := pw_cell_below HB.out hx137_3; replace p137 := eq_true p137; replace q137 := eq_true q137
   go_wp2_with (first | ((with_reducible refine gate_callee (f := 46) rfl ?_); refine gk_ (some 50) Tryz.func46 (salchowref10_atom.calls ((rd_T46 ((rd_T41 l0 x3_1).f1) x5_2).f0) ((rd_T46 ((rd_T41 l0 x3_1).f1) x5_2).f1) ((rd_T46 ((rd_T41 l0 x3_1).f1) x5_2).f2) ((rd_T46 ((rd_T41 l0 x3_1).f1) x5_2).f3) true _ A51.out) ?_; rintro e w56 ⟨rfl, hb⟩; refine ⟨_, rfl, ?_⟩; refine cut2_ (bb_ BK134.out hb) (below_step (bl1_ HB.out GE134.out) hb) ?_; clear hb BK134 HB; intro BK134 HB; obtain ⟨hcz57_0, hcz57_1, hcz57_2, hcz57_3, hcz57_4, hfz57_0, hfz57_1, hfz57_2, hfz57_3, hfz57_4⟩ := cq5_ BK134.out; have p139 : 0 ≤ (x5_2 : Int) := dt_; have q139 : x5_2 < (((rd_T41 l0 x3_1).f1).length : Int) := dt_; obtain ⟨ad139, e139, hx139_0, hx139_1, hx139_2, hx139_3⟩ := at_T46 HR133_1.out x5_2 p139 q139; obtain rfl : ad137 = ad139 := (by injection e139); replace hx139_0 := pw_cell_below HB.out hx139_0; replace hx139_1 := pw_cell_below HB.out hx139_1; replace hx139_2 := pw_cell_below HB.out hx139_2; replace hx139_3 := pw_cell_below HB.out hx139_3; replace p139 := eq_true p139; replace q139 := eq_true q139) | (go_at_call 45; (with_reducible refine (salchowref09_Valid.calls k2 ((rd_T46 ((rd_T41 l0 x3_1).f1) x5_2).f0) ((rd_T46 ((rd_T41 l0 x3_1).f1) x5_2).f1) ((rd_T46 ((rd_T41 l0 x3_1).f1) x5_2).f2) ((rd_T46 ((rd_T41 l0 x3_1).f1) x5_2).f3) true _ ?side1 A53.out).mono ?_); (case side1 => exact Gl.below hG (bl1_ HB.out GE134.out)); rintro e w58 ⟨rfl, hb⟩; refine cut2_ (bb_ BK134.out hb) (below_step (bl1_ HB.out GE134.out) hb) ?_; clear BK134 HB; intro BK134 HB; (try clear hb); (try clear hb2); (try clear hk); (try clear hi)))
   go_roundg k2
   case measure => have := HK1.out; have := HK2.out; omega
   case rel => exact ⟨(wrap64 (x5_2 + 1)), sr_, H', ⟨by have := HK1.out; have := HK2.out; omega⟩, ⟨bk_ BK134.out⟩, ⟨bl1_ HB.out GE134.out⟩⟩
mutual
def salchowref10_Depth.l0 : Nat → List (S41) → Int → Int → Option (Int)
 | 0, _, _, _ => none
 | k + 1, x0, x3, x4 => if x4 < (x0.length : Int) then (if 0 ≤ x4 then (if (rd_T41 x0 x4).f2 = true then ((salchowref10_Depth.f k ((rd_T41 x0 x4).f3)).bind fun t200 => (salchowref10_Depth.l0 k x0 (mx x3 (wrap64 (1 + t200))) (wrap64 (x4 + 1)))) else (salchowref10_Depth.l0 k x0 x3 (wrap64 (x4 + 1)))) else (none)) else (some x3)
def salchowref10_Depth.f : Nat → List (S41) → Option (Int)
 | 0, _ => none
 | k + 1, l0 => salchowref10_Depth.l0 k l0 0 0
end
theorem salchowref10_Depth.mono_l : ∀ k, (∀ y0, LeO (salchowref10_Depth.f k y0) (salchowref10_Depth.f (k + 1) y0)) ∧ (∀ y0 y1 y2, LeO (salchowref10_Depth.l0 k y0 y1 y2) (salchowref10_Depth.l0 (k + 1) y0 y1 y2))
 | 0 => ⟨fun _ r h => by simp [salchowref10_Depth.f] at h, fun _ _ _ r h => by simp [salchowref10_Depth.l0] at h⟩
 | k + 1 => by
  obtain ⟨ih0, ih1⟩ := salchowref10_Depth.mono_l k
  refine ⟨?_, ?_⟩
  ·
   intro y0
   unfold salchowref10_Depth.f
   repeat' first
   | (with_reducible exact LeO.refl _)
   | exact ih0 _
   | exact ih1 _ _ _
   | exact LeO.none _
   | refine LeO.ite ?_ ?_
   | refine LeO.bind ?_ (fun _ => ?_)
  ·
   intro y0 y1 y2
   unfold salchowref10_Depth.l0
   repeat' first
   | (with_reducible exact LeO.refl _)
   | exact ih0 _
   | exact ih1 _ _ _
   | exact LeO.none _
   | refine LeO.ite ?_ ?_
   | refine LeO.bind ?_ (fun _ => ?_)
theorem salchowref10_Depth.mono : ∀ a0 k, LeO (salchowref10_Depth.f k a0) (salchowref10_Depth.f (k + 1) a0) := by
 intro a0 k
 obtain ⟨ih0, ih1⟩ := salchowref10_Depth.mono_l k
 exact ih0 a0
theorem salchowref10_Depth.calls (k : Nat) : ∀ (A0 : Option Addr) (c0 : Nat) (l0 : List (S41)) (r : Int) (w : World) (hr0 : Kd.C k41 w A0 l0.length l0) (hc0 : l0.length ≤ c0) (h : salchowref10_Depth.f k l0 = some r),
  Calls Tryz.prog 25 #[.slice A0 l0.length c0] w fun e w' => e = .returned (.int .i64 r) ∧ Below w.heap.size w w' := by
 induction k using Nat.strongRecOn with
 | _ k ih =>
 intro A0 c0 l0 r w hr0 hc0 h
 cases k with
 | zero => exact absurd h (by simp [salchowref10_Depth.f])
 | succ k =>
 simp only [salchowref10_Depth.f] at h; have HR0 := Aside0.mk hr0; have HC0 := Aside0.mk hc0; clear hr0 hc0; have HB := Aside0.mk (Below.refl w.heap.size w); have H : (salchowref10_Depth.l0 k l0 0 0) = some r := h; clear h; have H' := Aside0.mk H; clear H
 go_enter Tryz.func25, Tryz.ntmps25
 go_wp2
 go_loopg [3, 4] k (fun kq v3 v4 w' => ∃ (x3_1 : Int) (x4_1 : Int), v3 = .int .i64 x3_1 ∧ v4 = .int .i64 x4_1 ∧ Aside0 (salchowref10_Depth.l0 kq l0 x3_1 x4_1 = some r) ∧ Aside0 (kq ≤ k) ∧ Aside0 (Below w.heap.size w w'))
 case atStart => exact ⟨(0), (0), sr_, sr_, H', ⟨Nat.le_refl _⟩, ⟨bl_ HB.out⟩⟩
 case round =>
  clear H'; obtain ⟨x3_1, x4_1, rfl, rfl, HA, HK1, HB⟩ := hrel; obtain _ | k1 := gk
  · exact absurd HA.out (by simp [salchowref10_Depth.l0])
  have H := HA.out; clear HA; simp only [salchowref10_Depth.l0] at H; replace H := (sd_ H).symm; obtain ⟨c2b0, H⟩ | ⟨c2b0, H⟩ := H
  ·
   obtain rfl := Option.some.inj H
   go_wp2
   go_ret
   exact ⟨er_, bl_ HB.out⟩
  replace H := gd_ H; obtain ⟨c3b0, H⟩ := H; obtain ⟨bq4, hbq4⟩ : ∃ b_ : Bool, b_ = ((rd_T41 l0 x4_1).f2) := ⟨_, rfl⟩; replace H : (if bq4 = true then ((salchowref10_Depth.f k1 ((rd_T41 l0 x4_1).f3)).bind fun t200 => (salchowref10_Depth.l0 k1 l0 (mx x3_1 (wrap64 (1 + t200))) (wrap64 (x4_1 + 1)))) else (salchowref10_Depth.l0 k1 l0 x3_1 (wrap64 (x4_1 + 1)))) = some r := by rw [← hbq4] at H; exact H
  have Nbq4 := Aside0.mk hbq4; clear hbq4; replace H := (sb_ H).symm; obtain ⟨rfl, H⟩ | ⟨rfl, H⟩ := H
  ·
   have H' := Aside0.mk H; clear H; have p198 : 0 ≤ (x4_1 : Int) := dt_; have q198 : x4_1 < (l0.length : Int) := dt_; obtain ⟨ad198, A198_1, c198_1, A198_3, c198_3, e198, hx198_0, hx198_1, hx198_2, hx198_3, hx198_4, hl198_1, hi198_1, hl198_3, hi198_3⟩ := at_T41 HR0.out x4_1 p198 q198; (try rw [← Nbq4.out] at hx198_2); cases e198; replace hx198_0 := pw_cell_below HB.out hx198_0; replace hx198_1 := pw_cell_below HB.out hx198_1; replace hx198_2 := pw_cell_below HB.out hx198_2; replace hx198_3 := pw_cell_below HB.out hx198_3; replace hx198_4 := pw_cell_below HB.out hx198_4; have HR198_1 := Aside0.mk hi198_1; have HC198_1 := Aside0.mk hl198_1; clear hi198_1 hl198_1; have HR198_3 := Aside0.mk hi198_3; have HC198_3 := Aside0.mk hl198_3; clear hi198_3 hl198_3; replace p198 := eq_true p198; replace q198 := eq_true q198
   go_wp2
   go_roundg k1
   case measure => have := HK1.out; omega
   case rel => exact ⟨(x3_1), (wrap64 (x4_1 + 1)), sr_, sr_, H', ⟨om_ HK1.out⟩, ⟨bl_ HB.out⟩⟩
  replace H := bn_ H; obtain ⟨t200, A6, H⟩ := H; (try dsimp only at H); obtain ⟨ji7, hji7⟩ : ∃ j_ : Int, (mx x3_1 (wrap64 (1 + t200))) = j_ := ⟨_, rfl⟩; replace H : (salchowref10_Depth.l0 k1 l0 ji7 (wrap64 (x4_1 + 1))) = some r := by first | (rw [hji7] at H; exact H) | (simp only [hji7] at H ⊢; exact H)
  (try rw [hji7] at A6); have hji7_ : (if x3_1 < (wrap64 (1 + t200)) then (wrap64 (1 + t200)) else x3_1) = ji7 := hji7; have H' := Aside0.mk H; clear H; have p198 : 0 ≤ (x4_1 : Int) := dt_; have q198 : x4_1 < (l0.length : Int) := dt_; obtain ⟨ad198, A198_1, c198_1, A198_3, c198_3, e198, hx198_0, hx198_1, hx198_2, hx198_3, hx198_4, hl198_1, hi198_1, hl198_3, hi198_3⟩ := at_T41 HR0.out x4_1 p198 q198; (try rw [← Nbq4.out] at hx198_2); cases e198; replace hx198_0 := pw_cell_below HB.out hx198_0; replace hx198_1 := pw_cell_below HB.out hx198_1; replace hx198_2 := pw_cell_below HB.out hx198_2; replace hx198_3 := pw_cell_below HB.out hx198_3; replace hx198_4 := pw_cell_below HB.out hx198_4; have HR198_1 := Aside0.mk hi198_1; have HC198_1 := Aside0.mk hl198_1; clear hi198_1 hl198_1; have HR198_3 := Aside0.mk hi198_3; have HC198_3 := Aside0.mk hl198_3; clear hi198_3 hl198_3; replace p198 := eq_true p198; replace q198 := eq_true q198; have p199 : 0 ≤ (x4_1 : Int) := dt_; have q199 : x4_1 < (l0.length : Int) := dt_; obtain ⟨ad199, A199_1, c199_1, A199_3, c199_3, e199, hx199_0, hx199_1, hx199_2, hx199_3, hx199_4, hl199_1, hi199_1, hl199_3, hi199_3⟩ := at_T41 HR0.out x4_1 p199 q199; (try rw [← Nbq4.out] at hx199_2); obtain rfl : ad198 = ad199 := (by injection e199); replace hx199_0 := pw_cell_below HB.out hx199_0; replace hx199_1 := pw_cell_below HB.out hx199_1; replace hx199_2 := pw_cell_below HB.out hx199_2; replace hx199_3 := pw_cell_below HB.out hx199_3; replace hx199_4 := pw_cell_below HB.out hx199_4; have HR199_1 := Aside0.mk hi199_1; have HC199_1 := Aside0.mk hl199_1; clear hi199_1 hl199_1; have HR199_3 := Aside0.mk hi199_3; have HC199_3 := Aside0.mk hl199_3; clear hi199_3 hl199_3; replace p199 := eq_true p199; replace q199 := eq_true q199; have ea_ := Option.some.inj (hx198_1.symm.trans hx199_1)
  injection ea_ with ea_ en_ ec_
  subst ea_; subst ec_; clear en_; have ea_ := Option.some.inj (hx198_3.symm.trans hx199_3)
  injection ea_ with ea_ en_ ec_
  subst ea_; subst ec_; clear en_
  go_wp2_with (first | ((with_reducible refine gate_callee (f := 25) rfl ?_); refine gk_ (some 22) Tryz.func25 (ih k1 (by have := HK1.out; omega) _ _ ((rd_T41 l0 x4_1).f3) t200 _ ?side1 ?side2 A6.out) ?_; (case side1 => repeat (first | exact (Kd.C_below HR199_3.out HB.out) | (with_reducible refine Kd.C_alloc ?_ _) | (with_reducible refine Kd.C_drewN ?_ _) | (with_reducible refine Kd.C_drew ?_))); (case side2 => exact HC199_3.out); rintro e w8 ⟨rfl, hb⟩; refine ⟨_, rfl, ?_⟩; refine cut1_ (below_step (bl_ HB.out) hb) ?_; clear hb HB; intro HB))
  go_roundg k1
  case measure => have := HK1.out; omega
  case rel => exact ⟨(ji7), (wrap64 (x4_1 + 1)), (by first | rfl | (simp; done) | (simp only [← hji7] <;> (first | rfl | simp)) | (simp [*]; done)), sr_, H', ⟨om_ HK1.out⟩, ⟨bl_ HB.out⟩⟩
def salchowref10_Check.f (k : Nat) (l0 : List (S41)) : Option (Int) := (salchowref10_formed.f k l0).bind fun t201 => (if t201 = true then ((salchowref10_Depth.f k l0).bind fun t202 => (if t202 > 8 then (some 6) else (some 0))) else (some 2))
theorem salchowref10_Check.mono : ∀ a0 k, LeO (salchowref10_Check.f k a0) (salchowref10_Check.f (k + 1) a0) := by
 intro a0 k
 unfold salchowref10_Check.f
 repeat' first
   | (with_reducible exact LeO.refl _)
   | exact salchowref10_Depth.mono _ _
   | exact salchowref10_formed.mono _ _
   | exact LeO.none _
   | refine LeO.ite ?_ ?_
   | refine LeO.bind ?_ (fun _ => ?_)
theorem salchowref10_Check.calls (k : Nat) (A0 : Option Addr) (c0 : Nat) (l0 : List (S41)) (r : Int) (w : World) (hG : Gl w) (hr0 : Kd.C k41 w A0 l0.length l0) (hc0 : l0.length ≤ c0) (h : salchowref10_Check.f k l0 = some r) :
  Calls Tryz.prog 9 #[.slice A0 l0.length c0] w fun e w' => e = .returned (.int .i64 r) ∧ Below w.heap.size w w' := by
 have HR0 := Aside0.mk hr0; have HC0 := Aside0.mk hc0; clear hr0 hc0; have HB := Aside0.mk (Below.refl w.heap.size w); have H : ((salchowref10_formed.f k l0).bind fun t201 => (if t201 = true then ((salchowref10_Depth.f k l0).bind fun t202 => (if t202 > 8 then (some 6) else (some 0))) else (some 2))) = some r := h; clear h; replace H := bn_ H; obtain ⟨t201, A2, H⟩ := H; (try dsimp only at H); replace H := (sb_ H).symm; obtain ⟨rfl, H⟩ | ⟨rfl, H⟩ := H
 ·
  obtain rfl := Option.some.inj H
  go_enter Tryz.func9, Tryz.ntmps9
  go_wp2_with (first | ((with_reducible refine gate_callee (f := 24) rfl ?_); refine gk_ (some 4) Tryz.func24 (salchowref10_formed.calls k _ _ l0 false _ ?side1 ?side2 ?side3 A2.out) ?_; (case side1 => exact Gl.below hG (bl_ HB.out)); (case side2 => repeat (first | exact HR0.out | (with_reducible refine Kd.C_alloc ?_ _) | (with_reducible refine Kd.C_drewN ?_ _) | (with_reducible refine Kd.C_drew ?_))); (case side3 => exact HC0.out); rintro e w10 ⟨rfl, hb⟩; refine ⟨_, rfl, ?_⟩; refine cut1_ (below_step (bl_ HB.out) hb) ?_; clear hb HB; intro HB))
  go_ret
  exact ⟨er_, bl_ HB.out⟩
 replace H := bn_ H; obtain ⟨t202, A4, H⟩ := H; (try dsimp only at H); replace H := sd_ H; obtain ⟨c5b0, H⟩ | ⟨c5b0, H⟩ := H
 ·
  obtain rfl := Option.some.inj H
  go_enter Tryz.func9, Tryz.ntmps9
  go_wp2_with (first | ((with_reducible refine gate_callee (f := 24) rfl ?_); refine gk_ (some 4) Tryz.func24 (salchowref10_formed.calls k _ _ l0 true _ ?side1 ?side2 ?side3 A2.out) ?_; (case side1 => exact Gl.below hG (bl_ HB.out)); (case side2 => repeat (first | exact HR0.out | (with_reducible refine Kd.C_alloc ?_ _) | (with_reducible refine Kd.C_drewN ?_ _) | (with_reducible refine Kd.C_drew ?_))); (case side3 => exact HC0.out); rintro e w6 ⟨rfl, hb⟩; refine ⟨_, rfl, ?_⟩; refine cut1_ (below_step (bl_ HB.out) hb) ?_; clear hb HB; intro HB) | ((with_reducible refine gate_callee (f := 25) rfl ?_); refine gk_ (some 7) Tryz.func25 (salchowref10_Depth.calls k _ _ l0 t202 _ ?side1 ?side2 A4.out) ?_; (case side1 => repeat (first | exact (Kd.C_below HR0.out HB.out) | (with_reducible refine Kd.C_alloc ?_ _) | (with_reducible refine Kd.C_drewN ?_ _) | (with_reducible refine Kd.C_drew ?_))); (case side2 => exact HC0.out); rintro e w7 ⟨rfl, hb⟩; refine ⟨_, rfl, ?_⟩; refine cut1_ (below_step (bl_ HB.out) hb) ?_; clear hb HB; intro HB))
  go_ret
  exact ⟨er_, bl_ HB.out⟩
 obtain rfl := Option.some.inj H
 go_enter Tryz.func9, Tryz.ntmps9
 go_wp2_with (first | ((with_reducible refine gate_callee (f := 24) rfl ?_); refine gk_ (some 4) Tryz.func24 (salchowref10_formed.calls k _ _ l0 true _ ?side1 ?side2 ?side3 A2.out) ?_; (case side1 => exact Gl.below hG (bl_ HB.out)); (case side2 => repeat (first | exact HR0.out | (with_reducible refine Kd.C_alloc ?_ _) | (with_reducible refine Kd.C_drewN ?_ _) | (with_reducible refine Kd.C_drew ?_))); (case side3 => exact HC0.out); rintro e w8 ⟨rfl, hb⟩; refine ⟨_, rfl, ?_⟩; refine cut1_ (below_step (bl_ HB.out) hb) ?_; clear hb HB; intro HB) | ((with_reducible refine gate_callee (f := 25) rfl ?_); refine gk_ (some 7) Tryz.func25 (salchowref10_Depth.calls k _ _ l0 t202 _ ?side1 ?side2 A4.out) ?_; (case side1 => repeat (first | exact (Kd.C_below HR0.out HB.out) | (with_reducible refine Kd.C_alloc ?_ _) | (with_reducible refine Kd.C_drewN ?_ _) | (with_reducible refine Kd.C_drew ?_))); (case side2 => exact HC0.out); rintro e w9 ⟨rfl, hb⟩; refine ⟨_, rfl, ?_⟩; refine cut1_ (below_step (bl_ HB.out) hb) ?_; clear hb HB; intro HB))
 go_ret
 exact ⟨er_, bl_ HB.out⟩
end Go.Proofs.YtkifdadhojbohaaGreatDoor.Pr
namespace Go.Proofs.YtkifdadhojbohaaGreatDoor.Pu
open Go.RowKit Go.Proofs.YtkifdadhojbohaaGreatDoor Go.Proofs.YtkifdadhojbohaaGreatDoor.Pr Go.Proofs.YtkifdadhojbohaaGreatDoorW.PrintWords Go.Proofs.YtkifdadhojbohaaGreatDoorW.PrintLast Go.Proofs.YtkifdadhojbohaaGreatDoorW.PrintMore
theorem zsign_f (t : S46) (c : UInt8) : salchowref10_sign.f t.f0 t.f1 t.f2 t.f3 (⟨#[c]⟩ : ByteArray) = some (isS t c) := by
  unfold salchowref10_sign.f isS
  rw [toList_lst, toList_lst]
  by_cases h : t.f0 = 4
  · rw [if_pos h, h]; rfl
  · rw [if_neg h]; simp [h]
theorem zatom_f (t : S46) : salchowref10_atom.f t.f0 t.f1 t.f2 t.f3 = some (isA t) := by
  unfold salchowref10_atom.f isA
  rw [zsign_f, zsign_f, zsign_f]
  by_cases h : t.f0 = 5
  · rw [if_pos h]; simp [h]
  · rw [if_neg h]
    cases h1 : isS t 59 <;> cases h2 : isS t 123 <;> cases h3 : isS t 125 <;> simp [h]
theorem rformed_f : ∀ l, szL l ≤ 900000 → AllC (txt 90000) l → Ev (fun k => salchowref10_formed.f k l) (formL l) := by
  have loop : ∀ l, szL l ≤ 900000 → AllC (txt 90000) l → ∀ (A : List S41) (i : Nat), A.drop i = l → A.length ≤ 900000 → i ≤ A.length → Ev (fun k => salchowref10_formed.l0 k A (i : Int)) (formL l) := by
    refine indL ?_ ?_
    · intro _ _ A i hA hn hi
      have : A.length ≤ i := by
        have := congrArg List.length hA
        rw [List.length_drop] at this
        simp at this; omega
      refine Ev.succ ?_
      simp only [salchowref10_formed.l0]
      exact Ev.ifn (by omega) (Ev.ret (by simp [formL]))
    · intro c l h1 h2 hs hP A i hA hn hi
      rw [szL] at hs
      cases hP with
      | cons _ _ hc hk hr =>
      obtain ⟨hw, ha⟩ := hc
      obtain ⟨a1, a2, a3⟩ := rd41_at hA
      have hc := len_le c.f3
      have inner : ∀ (d j : Nat) (ats : List S46), c.f1.drop j = ats → j ≤ c.f1.length → c.f1.length - j = d →
          Ev (fun k => salchowref10_formed.l1 k A (i : Int) (j : Int) c.f0 c.f1 c.f2 c.f3 c.f4) (ats.all okA && formL l) := by
        intro d
        induction d with
        | zero =>
          intro j ats hj hjl hd
          have e : ats = [] := by rw [← hj]; exact List.drop_eq_nil_of_le (by omega)
          subst e
          refine Ev.succ ?_
          simp only [salchowref10_formed.l1]
          refine Ev.ifn (by omega) ?_
          rw [wrap_nat i (by omega)]
          simpa using h2 (by omega) hr A (i + 1) a3 hn (by omega)
        | succ d ih =>
          intro j ats hj hjl hd
          cases ats with
          | nil =>
            have := congrArg List.length hj
            rw [List.length_drop] at this
            simp at this; omega
          | cons a ats =>
            obtain ⟨b1, b2, b3⟩ := rd_at hj
            have hm : a ∈ c.f1 := List.mem_of_mem_drop (by rw [hj]; simp)
            refine Ev.succ ?_
            simp only [salchowref10_formed.l1, b2, zatom_f]
            rw [wrap_nat j (by omega)]
            refine Ev.ifp (by omega) (Ev.ifp natO (Ev.val rfl ?_))
            cases hA' : isA a with
            | false => exact Ev.ifn (by simp) (Ev.ret (by simp [okA, hA']))
            | true =>
              refine Ev.ifp rfl (Ev.bind (rvalid_f a.f0 a.f1 (by have := ha a hm; omega) a.f2 a.f3) ?_)
              cases hv : validB a.f0 (lst a.f1) a.f2 with
              | false => exact Ev.ifn (by simp) (Ev.ret (by simp [okA, hv]))
              | true =>
                refine Ev.ifp rfl ?_
                have := ih (j + 1) ats b3 (by omega) (by omega)
                simpa [okA, hA', hv] using this
      have g := inner c.f1.length 0 c.f1 rfl (by omega) (by omega)
      have kids : Ev (fun k => salchowref10_formed.f k c.f3) (formL c.f3) := by
        refine Ev.succ ?_
        simp only [salchowref10_formed.f]
        exact h1 (by omega) hk c.f3 0 rfl (by omega) (by omega)
      have tail : Ev (fun k => (salchowref10_formed.f k c.f3).bind fun t => if t = true then salchowref10_formed.l1 k A (i : Int) 0 c.f0 c.f1 c.f2 c.f3 c.f4 else some false) (c.f1.all okA && formL c.f3 && formL l) := by
        refine Ev.bind kids ?_
        cases hf : formL c.f3 with
        | false => exact Ev.ifn (by simp) (Ev.ret (by simp))
        | true => exact Ev.ifp rfl (by simpa using g)
      refine Ev.succ ?_
      simp only [salchowref10_formed.l0, a2]
      refine Ev.ifp (by omega) (Ev.ifp natO (Ev.bind (rvalid_f 1 c.f0 (by omega) 0 0) ?_))
      rw [formL]
      cases hv : validB 1 (lst c.f0) 0 with
      | false => exact Ev.ifn (by simp) (Ev.ret (by simp))
      | true =>
        refine Ev.ifp rfl ?_
        by_cases hb : c.f2 = true
        · refine Ev.ifp hb ?_
          simpa [hb] using tail
        · refine Ev.ifn hb ?_
          by_cases hz : ((c.f3).length : Int) > 0
          · refine Ev.ifp hz (Ev.ret ?_)
            have : c.f3 ≠ [] := by intro e; rw [e] at hz; simp at hz
            simp [hb, this]
          · refine Ev.ifn hz ?_
            have : c.f3 = [] := by
              cases h : c.f3 with
              | nil => rfl
              | cons _ _ => rw [h] at hz; simp at hz
            simpa [hb, this] using tail
  intro l hl hP
  have := len_le l
  refine Ev.succ ?_
  simp only [salchowref10_formed.f]
  exact loop l hl hP l 0 rfl (by omega) (by omega)
theorem rDepth_f : ∀ l, szL l ≤ 900000 → Ev (fun k => salchowref10_Depth.f k l) (depL l : Int) := by
  have loop : ∀ l, szL l ≤ 900000 → ∀ (A : List S41) (i m : Nat), A.drop i = l → A.length ≤ 900000 → m ≤ 900000 → i ≤ A.length → Ev (fun k => salchowref10_Depth.l0 k A (m : Int) (i : Int)) ((max m (depL l) : Nat) : Int) := by
    refine indL ?_ ?_
    · intro _ A i m hA hn hm hi
      have : A.length ≤ i := by
        have := congrArg List.length hA
        rw [List.length_drop] at this
        simp at this; omega
      refine Ev.succ ?_
      simp only [salchowref10_Depth.l0]
      exact Ev.ifn (by omega) (Ev.ret (by simp [depL]))
    · intro c l h1 h2 hs A i m hA hn hm hi
      rw [szL] at hs
      obtain ⟨a1, a2, a3⟩ := rd41_at hA
      have hd := dep_le c.f3
      have hc := len_le c.f3
      refine Ev.succ ?_
      simp only [salchowref10_Depth.l0, a2]
      rw [wrap_nat i (by omega)]
      refine Ev.ifp (by omega) (Ev.ifp natO ?_)
      by_cases hb : c.f2 = true
      · refine Ev.ifp hb (Ev.bind (a := ((depL c.f3 : Nat) : Int)) ?_ ?_)
        · refine Ev.succ ?_
          simp only [salchowref10_Depth.f]
          simpa using h1 (by omega) c.f3 0 0 rfl (by omega) (by omega) (by omega)
        · have e : wrap64 (1 + ((depL c.f3 : Nat) : Int)) = ((1 + depL c.f3 : Nat) : Int) := by rw [wrap64_of (by omega) (by omega)]; omega
          rw [e, mx_nat]
          have := h2 (by omega) A (i + 1) (max m (1 + depL c.f3)) a3 hn (by omega) (by omega)
          rw [depL, if_pos hb]
          rwa [← Nat.max_assoc]
      · refine Ev.ifn hb ?_
        have := h2 (by omega) A (i + 1) m a3 hn (by omega) (by omega)
        rw [depL, if_neg hb]
        simpa using this
  intro l hl
  have := len_le l
  refine Ev.succ ?_
  simp only [salchowref10_Depth.f]
  simpa using loop l hl l 0 0 rfl (by omega) (by omega) (by omega)
theorem rCheck_f (l : List S41) (hl : szL l ≤ 900000) (hP : AllC (txt 90000) l) : Ev (fun k => salchowref10_Check.f k l) (chkL l) := by
  unfold salchowref10_Check.f chkL
  refine Ev.bind (rformed_f l hl hP) ?_
  cases hf : formL l with
  | false => exact Ev.ifn (by simp) (Ev.ret (by simp))
  | true =>
    refine Ev.ifp rfl (Ev.bind (rDepth_f l hl) ?_)
    by_cases h8 : 8 < depL l
    · exact Ev.ifp (by omega) (Ev.ret (by simp [h8]))
    · exact Ev.ifn (by omega) (Ev.ret (by simp [h8]))
end Go.Proofs.YtkifdadhojbohaaGreatDoor.Pu
namespace Go.Proofs.YtkifdadhojbohaaGreatDoor.Pr
open Go.Proofs.YtkifdadhojbohaaGreatDoor
open Go.RowKit Go.Proofs.YtkifdadhojbohaaGreatDoorW.PrintWords Go.Proofs.YtkifdadhojbohaaGreatDoorW.PrintLast Go.Proofs.YtkifdadhojbohaaGreatDoorW.PrintMore
attribute [local go_sem] max2_int min2_int max_two min_two max_three min_three max_four min_four   -- for this text's walks alone
set_option linter.unusedVariables false
set_option linter.unusedSimpArgs false
def salchowref11_is.l0 : Nat → ByteArray → Int → Int → ByteArray → Int → Int → Option (Bool)
 | 0, _, _, _, _, _, _ => none
 | k + 1, x1, x5, x204000, x204001, x204002, x204003 => if x5 < (x1.size : Int) then (if x204000 = 4 then (if 0 ≤ x5 then (if x5 ≤ (wrap64 (x5 + 1)) then (if (wrap64 (x5 + 1)) ≤ (x1.size : Int) then (if x204001.toList = (x1.extract (x5 : Int).toNat ((wrap64 (x5 + 1)) : Int).toNat).toList then (some true) else (salchowref11_is.l0 k x1 (wrap64 (x5 + 1)) x204000 x204001 x204002 x204003)) else (none)) else (none)) else (none)) else (salchowref11_is.l0 k x1 (wrap64 (x5 + 1)) x204000 x204001 x204002 x204003)) else (some false)
def salchowref11_is.f (k : Nat) (a0_0 : Int) (a0_1 : ByteArray) (a0_2 : Int) (a0_3 : Int) (a1 : ByteArray) : Option (Bool) := salchowref11_is.l0 k a1 0 a0_0 a0_1 a0_2 a0_3
theorem salchowref11_is.mono_l : ∀ k, (∀ y0 y1 y2 y3 y4 y5, LeO (salchowref11_is.l0 k y0 y1 y2 y3 y4 y5) (salchowref11_is.l0 (k + 1) y0 y1 y2 y3 y4 y5))
 | 0 => fun _ _ _ _ _ _ r h => by simp [salchowref11_is.l0] at h
 | k + 1 => by
  have ih0 := salchowref11_is.mono_l k
  ·
   intro y0 y1 y2 y3 y4 y5
   unfold salchowref11_is.l0
   repeat' first
   | (with_reducible exact LeO.refl _)
   | exact ih0 _ _ _ _ _ _
   | exact LeO.none _
   | refine LeO.ite ?_ ?_
   | refine LeO.bind ?_ (fun _ => ?_)
theorem salchowref11_is.mono : ∀ a0 a1 a2 a3 a4 k, LeO (salchowref11_is.f k a0 a1 a2 a3 a4) (salchowref11_is.f (k + 1) a0 a1 a2 a3 a4) := by
 intro a0 a1 a2 a3 a4 k
 have ih0 := salchowref11_is.mono_l k
 unfold salchowref11_is.f
 repeat' first
   | (with_reducible exact LeO.refl _)
   | exact ih0 _ _ _ _ _ _
   | exact LeO.none _
   | refine LeO.ite ?_ ?_
   | refine LeO.bind ?_ (fun _ => ?_)
theorem salchowref11_is.calls (k : Nat) (a0_0 : Int) (a0_1 : ByteArray) (a0_2 : Int) (a0_3 : Int) (a1 : ByteArray) (r : Bool) (w : World) (h : salchowref11_is.f k a0_0 a0_1 a0_2 a0_3 a1 = some r) :
  Calls Tryz.prog 26 #[.agg #[.int .i64 a0_0, .string a0_1, .int .i64 a0_2, .int .i64 a0_3], .string a1] w fun e w' => e = .returned (.bool r) ∧ Below w.heap.size w w' := by
 have hu50 := Tryz.underlying50; have HB := Aside0.mk (Below.refl w.heap.size w); have H : (salchowref11_is.l0 k a1 0 a0_0 a0_1 a0_2 a0_3) = some r := h; clear h; have H' := Aside0.mk H; clear H
 go_enter Tryz.func26, Tryz.ntmps26
 go_wp2_with (first | ((with_reducible refine gate_dst (N := 2) rfl ?_); refine bx_ (N := 2) (cs := #[.int .i64 a0_0, .string a0_1, .int .i64 a0_2, .int .i64 a0_3]) (t := 50) ?_; intro gb203 hg w3 hbox hb; refine cut4_ (below_step (bl_ HB.out) hb) (hbox) (bz_ (w := w) hg (bl_ HB.out)) (bz_ (w := w) hg (bl_ HB.out)) ?_; clear HB; intro HB BK203 GW203 GE203; clear hb hbox hg))
 repeat (go_quiet (first | ((with_reducible refine gate_dst (N := 2) rfl ?_); refine bx_ (N := 2) (cs := #[.int .i64 a0_0, .string a0_1, .int .i64 a0_2, .int .i64 a0_3]) (t := 50) ?_; intro gb203 hg w3 hbox hb; refine cut4_ (below_step (bl_ HB.out) hb) (hbox) (bz_ (w := w) hg (bl_ HB.out)) (bz_ (w := w) hg (bl_ HB.out)) ?_; clear HB; intro HB BK203 GW203 GE203; clear hb hbox hg)); try go_wp2_with (first | ((with_reducible refine gate_dst (N := 2) rfl ?_); refine bx_ (N := 2) (cs := #[.int .i64 a0_0, .string a0_1, .int .i64 a0_2, .int .i64 a0_3]) (t := 50) ?_; intro gb203 hg w3 hbox hb; have n0_ := Aside0.mk (below_step (bl_ HB.out) hb); have n1_ := Aside0.mk (hbox); have n2_ := Aside0.mk (bz_ (w := w) hg (bl_ HB.out)); have n3_ := Aside0.mk (bz_ (w := w) hg (bl_ HB.out)); clear HB; have HB := n0_; have BK203 := n1_; have GW203 := n2_; have GE203 := n3_; clear n0_ n1_ n2_ n3_; clear hb hbox hg)))
 go_loopg [5] k (fun kq v5 w' => ∃ (x5_1 : Int), v5 = .int .i64 x5_1 ∧ Aside0 (salchowref11_is.l0 kq a1 x5_1 a0_0 a0_1 a0_2 a0_3 = some r) ∧ Aside0 (kq ≤ k) ∧ Aside0 (w'.heap[gb203]? = some (.cells #[.int .i64 a0_0, .string a0_1, .int .i64 a0_2, .int .i64 a0_3] 50 (0, 0))) ∧ Aside0 (Below w.heap.size w w'))
 case atStart => exact ⟨(0), sr_, H', ⟨Nat.le_refl _⟩, ⟨bk_ BK203.out⟩, ⟨bl1_ HB.out GE203.out⟩⟩
 case round =>
  clear H'; obtain ⟨x5_1, rfl, HA, HK1, BK203, HB⟩ := hrel; obtain _ | k1 := gk
  · exact absurd HA.out (by simp [salchowref11_is.l0])
  have H := HA.out; clear HA; simp only [salchowref11_is.l0] at H; replace H := (sd_ H).symm; obtain ⟨c4b0, H⟩ | ⟨c4b0, H⟩ := H
  ·
   obtain rfl := Option.some.inj H
   go_wp2
   repeat (go_quiet (fail); try go_wp2)
   go_ret
   exact ⟨er_, bl1_ HB.out GE203.out⟩
  replace H := (sp_ H).symm; obtain ⟨c5, H⟩ | ⟨c5, H⟩ := H
  ·
   have c5b0 := beq_eq_false_iff_ne.mpr c5; have c5b1 := bne_iff_ne.mpr c5; have H' := Aside0.mk H; clear H; obtain ⟨hcz12_0, hcz12_1, hcz12_2, hcz12_3, hfz12_0, hfz12_1, hfz12_2, hfz12_3⟩ := cq4_ BK203.out
   go_wp2
   repeat (go_quiet (fail); try go_wp2)
   go_roundg k1
   case measure => have := HK1.out; omega
   case rel => exact ⟨(wrap64 (x5_1 + 1)), sr_, H', ⟨om_ HK1.out⟩, ⟨bk_ BK203.out⟩, ⟨bl1_ HB.out GE203.out⟩⟩
  have c5b0 := beq_iff_eq.mpr c5; have c5b1 := bne_eq_false_iff_eq.mpr c5; clear c5; replace H := gt_ H; obtain ⟨c6b0, c6b1, H⟩ := H; replace H := gp_ H; obtain ⟨c7, H⟩ := H; have c7b0 := eq_true c7; have c7b1 := decide_eq_true c7; replace H := gp_ H; obtain ⟨c8, H⟩ := H; have c8b0 := eq_true c8; have c8b1 := decide_eq_true c8; replace H := sp_ H; obtain ⟨c9, H⟩ | ⟨c9, H⟩ := H
  ·
   have c9b0 := beq_iff_eq.mpr c9; have c9b1 := bne_eq_false_iff_eq.mpr c9; (try (have c9e0 := c9b0; simp only [ByteArray.size_extract, Nat.min_self, Nat.sub_zero] at c9e0)); (try (have c9e1 := c9b1; simp only [ByteArray.size_extract, Nat.min_self, Nat.sub_zero] at c9e1)); clear c9; obtain rfl := Option.some.inj H; obtain ⟨hcz10_0, hcz10_1, hcz10_2, hcz10_3, hfz10_0, hfz10_1, hfz10_2, hfz10_3⟩ := cq4_ BK203.out
   go_wp2
   repeat (go_quiet (fail); try go_wp2)
   go_ret
   exact ⟨er_, bl1_ HB.out GE203.out⟩
  have c9b0 := beq_eq_false_iff_ne.mpr c9; have c9b1 := bne_iff_ne.mpr c9; (try (have c9e0 := c9b0; simp only [ByteArray.size_extract, Nat.min_self, Nat.sub_zero] at c9e0)); (try (have c9e1 := c9b1; simp only [ByteArray.size_extract, Nat.min_self, Nat.sub_zero] at c9e1)); have H' := Aside0.mk H; clear H; obtain ⟨hcz11_0, hcz11_1, hcz11_2, hcz11_3, hfz11_0, hfz11_1, hfz11_2, hfz11_3⟩ := cq4_ BK203.out
  go_wp2
  repeat (go_quiet (fail); try go_wp2)
  go_roundg k1
  case measure => have := HK1.out; omega
  case rel => exact ⟨(wrap64 (x5_1 + 1)), sr_, H', ⟨om_ HK1.out⟩, ⟨bk_ BK203.out⟩, ⟨bl1_ HB.out GE203.out⟩⟩
def salchowref11_Line.l0 : Nat → ByteArray → Int → ByteArray → List (S46) → Bool → List (S41) → Int → Option (ByteArray)
 | 0, _, _, _, _, _, _, _ => none
 | k + 1, x3, x4, x205000, x205001, x205002, x205003, x205004 => if x4 < (x205001.length : Int) then (if x4 = 0 then (if x3.size + 1 ≤ 9223372036854775807 then (if 0 ≤ x4 then ((salchowref09_Spell.f k ((rd_T46 x205001 x4).f0) ((rd_T46 x205001 x4).f1) ((rd_T46 x205001 x4).f2) ((rd_T46 x205001 x4).f3)).bind fun t206 => (if (x3 ++ (⟨#[32]⟩ : ByteArray)).size + t206.size ≤ 9223372036854775807 then (salchowref11_Line.l0 k ((x3 ++ (⟨#[32]⟩ : ByteArray)) ++ t206) (wrap64 (x4 + 1)) x205000 x205001 x205002 x205003 x205004) else (none))) else (none)) else (none)) else (if 0 ≤ (wrap64 (x4 - 1)) then (if (wrap64 (x4 - 1)) < (x205001.length : Int) then ((salchowref11_is.f k ((rd_T46 x205001 (wrap64 (x4 - 1))).f0) ((rd_T46 x205001 (wrap64 (x4 - 1))).f1) ((rd_T46 x205001 (wrap64 (x4 - 1))).f2) ((rd_T46 x205001 (wrap64 (x4 - 1))).f3) (⟨#[40]⟩ : ByteArray)).bind fun t208 => (if t208 = true then (if 0 ≤ x4 then ((salchowref09_Spell.f k ((rd_T46 x205001 x4).f0) ((rd_T46 x205001 x4).f1) ((rd_T46 x205001 x4).f2) ((rd_T46 x205001 x4).f3)).bind fun t210 => (if x3.size + t210.size ≤ 9223372036854775807 then (salchowref11_Line.l0 k (x3 ++ t210) (wrap64 (x4 + 1)) x205000 x205001 x205002 x205003 x205004) else (none))) else (none)) else (if 0 ≤ x4 then ((salchowref11_is.f k ((rd_T46 x205001 x4).f0) ((rd_T46 x205001 x4).f1) ((rd_T46 x205001 x4).f2) ((rd_T46 x205001 x4).f3) (⟨#[41, 44]⟩ : ByteArray)).bind fun t212 => (if t212 = true then ((salchowref09_Spell.f k ((rd_T46 x205001 x4).f0) ((rd_T46 x205001 x4).f1) ((rd_T46 x205001 x4).f2) ((rd_T46 x205001 x4).f3)).bind fun t214 => (if x3.size + t214.size ≤ 9223372036854775807 then (salchowref11_Line.l0 k (x3 ++ t214) (wrap64 (x4 + 1)) x205000 x205001 x205002 x205003 x205004) else (none))) else (if x3.size + 1 ≤ 9223372036854775807 then ((salchowref09_Spell.f k ((rd_T46 x205001 x4).f0) ((rd_T46 x205001 x4).f1) ((rd_T46 x205001 x4).f2) ((rd_T46 x205001 x4).f3)).bind fun t216 => (if (x3 ++ (⟨#[32]⟩ : ByteArray)).size + t216.size ≤ 9223372036854775807 then (salchowref11_Line.l0 k ((x3 ++ (⟨#[32]⟩ : ByteArray)) ++ t216) (wrap64 (x4 + 1)) x205000 x205001 x205002 x205003 x205004) else (none))) else (none)))) else (none)))) else (none)) else (none))) else (if x205002 = true then (if x3.size + 2 ≤ 9223372036854775807 then (some (x3 ++ (⟨#[32, 123]⟩ : ByteArray))) else (none)) else (if x3.size + 1 ≤ 9223372036854775807 then (some (x3 ++ (⟨#[59]⟩ : ByteArray))) else (none)))
def salchowref11_Line.f (k : Nat) (a0_0 : ByteArray) (l0_1 : List (S46)) (a0_2 : Bool) (l0_3 : List (S41)) (a0_4 : Int) : Option (ByteArray) := salchowref11_Line.l0 k a0_0 0 a0_0 l0_1 a0_2 l0_3 a0_4
theorem salchowref11_Line.mono_l : ∀ k, (∀ y0 y1 y2 y3 y4 y5 y6, LeO (salchowref11_Line.l0 k y0 y1 y2 y3 y4 y5 y6) (salchowref11_Line.l0 (k + 1) y0 y1 y2 y3 y4 y5 y6))
 | 0 => fun _ _ _ _ _ _ _ r h => by simp [salchowref11_Line.l0] at h
 | k + 1 => by
  have ih0 := salchowref11_Line.mono_l k
  ·
   intro y0 y1 y2 y3 y4 y5 y6
   unfold salchowref11_Line.l0
   repeat' first
   | (with_reducible exact LeO.refl _)
   | exact ih0 _ _ _ _ _ _ _
   | exact salchowref09_Spell.mono _ _ _ _ _
   | exact salchowref11_is.mono _ _ _ _ _ _
   | exact LeO.none _
   | refine LeO.ite ?_ ?_
   | refine LeO.bind ?_ (fun _ => ?_)
theorem salchowref11_Line.mono : ∀ a0 a1 a2 a3 a4 k, LeO (salchowref11_Line.f k a0 a1 a2 a3 a4) (salchowref11_Line.f (k + 1) a0 a1 a2 a3 a4) := by
 intro a0 a1 a2 a3 a4 k
 have ih0 := salchowref11_Line.mono_l k
 unfold salchowref11_Line.f
 repeat' first
   | (with_reducible exact LeO.refl _)
   | exact ih0 _ _ _ _ _ _ _
   | exact salchowref09_Spell.mono _ _ _ _ _
   | exact salchowref11_is.mono _ _ _ _ _ _
   | exact LeO.none _
   | refine LeO.ite ?_ ?_
   | refine LeO.bind ?_ (fun _ => ?_)
theorem salchowref11_Line.calls (k : Nat) (a0_0 : ByteArray) (A0_1 : Option Addr) (c0_1 : Nat) (l0_1 : List (S46)) (a0_2 : Bool) (A0_3 : Option Addr) (c0_3 : Nat) (l0_3 : List (S41)) (a0_4 : Int) (r : ByteArray) (w : World) (hG : Gl w) (hr0_1 : Kd.C k46 w A0_1 l0_1.length l0_1) (hc0_1 : l0_1.length ≤ c0_1) (hr0_3 : Kd.C k41 w A0_3 l0_3.length l0_3) (hc0_3 : l0_3.length ≤ c0_3) (h : salchowref11_Line.f k a0_0 l0_1 a0_2 l0_3 a0_4 = some r) :
  Calls Tryz.prog 10 #[.agg #[.string a0_0, .slice A0_1 l0_1.length c0_1, .bool a0_2, .slice A0_3 l0_3.length c0_3, .int .i64 a0_4]] w fun e w' => e = .returned (.string r) ∧ Below w.heap.size w w' := by
 have hu25 := Tryz.underlying25; have hu50 := Tryz.underlying50; have HR0_1 := Aside0.mk hr0_1; have HC0_1 := Aside0.mk hc0_1; clear hr0_1 hc0_1; have HR0_3 := Aside0.mk hr0_3; have HC0_3 := Aside0.mk hc0_3; clear hr0_3 hc0_3; have HB := Aside0.mk (Below.refl w.heap.size w); have H : (salchowref11_Line.l0 k a0_0 0 a0_0 l0_1 a0_2 l0_3 a0_4) = some r := h; clear h; have H' := Aside0.mk H; clear H
 go_enter Tryz.func10, Tryz.ntmps10
 go_wp2_with (first | ((with_reducible refine gate_dst (N := 1) rfl ?_); refine bx_ (N := 1) (cs := #[.string a0_0, .slice A0_1 l0_1.length c0_1, .bool a0_2, .slice A0_3 l0_3.length c0_3, .int .i64 a0_4]) (t := 25) ?_; intro gb204 hg w2 hbox hb; refine cut4_ (below_step (bl_ HB.out) hb) (hbox) (bz_ (w := w) hg (bl_ HB.out)) (bz_ (w := w) hg (bl_ HB.out)) ?_; clear HB; intro HB BK204 GW204 GE204; clear hb hbox hg; obtain ⟨hcz3_0, hcz3_1, hcz3_2, hcz3_3, hcz3_4, hfz3_0, hfz3_1, hfz3_2, hfz3_3, hfz3_4⟩ := cq5_ BK204.out))
 go_loopg [3, 4] k (fun kq v3 v4 w' => ∃ (x3_1 : ByteArray) (x4_1 : Int), v3 = .string x3_1 ∧ v4 = .int .i64 x4_1 ∧ Aside0 (salchowref11_Line.l0 kq x3_1 x4_1 a0_0 l0_1 a0_2 l0_3 a0_4 = some r) ∧ Aside0 (kq ≤ k) ∧ Aside0 (w'.heap[gb204]? = some (.cells #[.string a0_0, (.slice A0_1 l0_1.length c0_1), .bool a0_2, (.slice A0_3 l0_3.length c0_3), .int .i64 a0_4] 25 (0, 0))) ∧ Aside0 (Below w.heap.size w w'))
 case atStart => exact ⟨(a0_0), (0), sr_, sr_, H', ⟨Nat.le_refl _⟩, ⟨bk_ BK204.out⟩, ⟨bl1_ HB.out GE204.out⟩⟩
 case round =>
  clear H'; (try clear hcz3_0); (try clear hcz3_1); (try clear hcz3_2); (try clear hcz3_3); (try clear hcz3_4); (try clear hfz3_0); (try clear hfz3_1); (try clear hfz3_2); (try clear hfz3_3); (try clear hfz3_4); obtain ⟨x3_1, x4_1, rfl, rfl, HA, HK1, BK204, HB⟩ := hrel; obtain _ | k1 := gk
  · exact absurd HA.out (by simp [salchowref11_Line.l0])
  have H := HA.out; clear HA; simp only [salchowref11_Line.l0] at H; replace H := (sd_ H).symm; obtain ⟨c4b0, H⟩ | ⟨c4b0, H⟩ := H
  ·
   replace H := sb_ H; obtain ⟨rfl, H⟩ | ⟨rfl, H⟩ := H
   ·
    replace H := gp_ H; obtain ⟨c45, H⟩ := H; have c45b0 := eq_true c45; have c45b1 := decide_eq_true c45
    try have c45b2 : (9223372036854775807 < x3_1.size + 2) = False := eq_false (Nat.not_lt.2 c45)
    obtain rfl := Option.some.inj H; obtain ⟨hcz46_0, hcz46_1, hcz46_2, hcz46_3, hcz46_4, hfz46_0, hfz46_1, hfz46_2, hfz46_3, hfz46_4⟩ := cq5_ BK204.out
    go_wp2
    go_ret
    exact ⟨er_, bl1_ HB.out GE204.out⟩
   replace H := gp_ H; obtain ⟨c47, H⟩ := H; have c47b0 := eq_true c47; have c47b1 := decide_eq_true c47
   try have c47b2 : (9223372036854775807 < x3_1.size + 1) = False := eq_false (Nat.not_lt.2 c47)
   obtain rfl := Option.some.inj H; obtain ⟨hcz48_0, hcz48_1, hcz48_2, hcz48_3, hcz48_4, hfz48_0, hfz48_1, hfz48_2, hfz48_3, hfz48_4⟩ := cq5_ BK204.out
   go_wp2
   go_ret
   exact ⟨er_, bl1_ HB.out GE204.out⟩
  replace H := sp_ H; obtain ⟨c5, H⟩ | ⟨c5, H⟩ := H
  ·
   have c5b0 := beq_iff_eq.mpr c5; have c5b1 := bne_eq_false_iff_eq.mpr c5; clear c5; replace H := gp_ H; obtain ⟨c6, H⟩ := H; have c6b0 := eq_true c6; have c6b1 := decide_eq_true c6
   try have c6b2 : (9223372036854775807 < x3_1.size + 1) = False := eq_false (Nat.not_lt.2 c6)
   replace H := gd_ H; obtain ⟨c7b0, H⟩ := H; replace H := bn_ H; obtain ⟨t206, A8, H⟩ := H; (try dsimp only at H); replace H := gp_ H; obtain ⟨c9, H⟩ := H; have c9b0 := eq_true c9; have c9b1 := decide_eq_true c9; (try (have c9b3 : (9223372036854775807 < x3_1.size + 1 + t206.size) = False := eq_false (Nat.not_lt.2 (by have h_ := c9; simp only [ByteArray.size_append] at h_; exact h_)))); (try (have c9b4 : (x3_1.size + 1 + t206.size ≤ 9223372036854775807) = True := eq_true (by have h_ := c9; simp only [ByteArray.size_append] at h_; exact h_)))
   try have c9b2 : (9223372036854775807 < (x3_1 ++ (⟨#[32]⟩ : ByteArray)).size + t206.size) = False := eq_false (Nat.not_lt.2 c9)
   have H' := Aside0.mk H; clear H; obtain ⟨hcz10_0, hcz10_1, hcz10_2, hcz10_3, hcz10_4, hfz10_0, hfz10_1, hfz10_2, hfz10_3, hfz10_4⟩ := cq5_ BK204.out; have p205 : 0 ≤ (x4_1 : Int) := dt_; have q205 : x4_1 < (l0_1.length : Int) := dt_; obtain ⟨ad205, e205, hx205_0, hx205_1, hx205_2, hx205_3⟩ := at_T46 HR0_1.out x4_1 p205 q205; cases e205; replace hx205_0 := pw_cell_below HB.out hx205_0; replace hx205_1 := pw_cell_below HB.out hx205_1; replace hx205_2 := pw_cell_below HB.out hx205_2; replace hx205_3 := pw_cell_below HB.out hx205_3; replace p205 := eq_true p205; replace q205 := eq_true q205
   go_wp2_with (first | ((with_reducible refine gate_callee (f := 27) rfl ?_); refine gk_ (some 43) Tryz.func27 (salchowref09_Spell.calls k1 ((rd_T46 l0_1 x4_1).f0) ((rd_T46 l0_1 x4_1).f1) ((rd_T46 l0_1 x4_1).f2) ((rd_T46 l0_1 x4_1).f3) t206 _ ?side1 A8.out) ?_; (case side1 => exact Gl.below hG (bl1_ HB.out GE204.out)); rintro e w11 ⟨rfl, hb⟩; refine ⟨_, rfl, ?_⟩; refine cut2_ (bb_ BK204.out hb) (below_step (bl1_ HB.out GE204.out) hb) ?_; clear hb BK204 HB; intro BK204 HB))
   go_roundg k1
   case measure => have := HK1.out; omega
   case rel => exact ⟨((x3_1 ++ (⟨#[32]⟩ : ByteArray)) ++ t206), (wrap64 (x4_1 + 1)), sr_, sr_, H', ⟨om_ HK1.out⟩, ⟨bk_ BK204.out⟩, ⟨bl1_ HB.out GE204.out⟩⟩
  have c5b0 := beq_eq_false_iff_ne.mpr c5; have c5b1 := bne_iff_ne.mpr c5; obtain ⟨ji12, hji12⟩ : ∃ j_ : Int, (wrap64 (x4_1 - 1)) = j_ := ⟨_, rfl⟩; replace H : (if 0 ≤ (ji12) then (if (ji12) < (l0_1.length : Int) then ((salchowref11_is.f k1 ((rd_T46 l0_1 (ji12)).f0) ((rd_T46 l0_1 (ji12)).f1) ((rd_T46 l0_1 (ji12)).f2) ((rd_T46 l0_1 (ji12)).f3) (⟨#[40]⟩ : ByteArray)).bind fun t208 => (if t208 = true then (if 0 ≤ x4_1 then ((salchowref09_Spell.f k1 ((rd_T46 l0_1 x4_1).f0) ((rd_T46 l0_1 x4_1).f1) ((rd_T46 l0_1 x4_1).f2) ((rd_T46 l0_1 x4_1).f3)).bind fun t210 => (if x3_1.size + t210.size ≤ 9223372036854775807 then (salchowref11_Line.l0 k1 (x3_1 ++ t210) (wrap64 (x4_1 + 1)) a0_0 l0_1 a0_2 l0_3 a0_4) else (none))) else (none)) else (if 0 ≤ x4_1 then ((salchowref11_is.f k1 ((rd_T46 l0_1 x4_1).f0) ((rd_T46 l0_1 x4_1).f1) ((rd_T46 l0_1 x4_1).f2) ((rd_T46 l0_1 x4_1).f3) (⟨#[41, 44]⟩ : ByteArray)).bind fun t212 => (if t212 = true then ((salchowref09_Spell.f k1 ((rd_T46 l0_1 x4_1).f0) ((rd_T46 l0_1 x4_1).f1) ((rd_T46 l0_1 x4_1).f2) ((rd_T46 l0_1 x4_1).f3)).bind fun t214 => (if x3_1.size + t214.size ≤ 9223372036854775807 then (salchowref11_Line.l0 k1 (x3_1 ++ t214) (wrap64 (x4_1 + 1)) a0_0 l0_1 a0_2 l0_3 a0_4) else (none))) else (if x3_1.size + 1 ≤ 9223372036854775807 then ((salchowref09_Spell.f k1 ((rd_T46 l0_1 x4_1).f0) ((rd_T46 l0_1 x4_1).f1) ((rd_T46 l0_1 x4_1).f2) ((rd_T46 l0_1 x4_1).f3)).bind fun t216 => (if (x3_1 ++ (⟨#[32]⟩ : ByteArray)).size + t216.size ≤ 9223372036854775807 then (salchowref11_Line.l0 k1 ((x3_1 ++ (⟨#[32]⟩ : ByteArray)) ++ t216) (wrap64 (x4_1 + 1)) a0_0 l0_1 a0_2 l0_3 a0_4) else (none))) else (none)))) else (none)))) else (none)) else (none)) = some r := by first | (rw [hji12] at H; exact H) | (simp only [hji12] at H ⊢; exact H)
  have hji12w : (IntKind.i64.wrap (x4_1 - 1)) = ji12 := (i64_w _).trans hji12; replace H := gd_ H; obtain ⟨c13b0, H⟩ := H; replace H := gd_ H; obtain ⟨c14b0, H⟩ := H; replace H := bn_ H; obtain ⟨t208, A15, H⟩ := H; (try dsimp only at H); replace H := sb_ H; obtain ⟨rfl, H⟩ | ⟨rfl, H⟩ := H
  ·
   replace H := gd_ H; obtain ⟨c17b0, H⟩ := H; replace H := bn_ H; obtain ⟨t210, A18, H⟩ := H; (try dsimp only at H); replace H := gp_ H; obtain ⟨c19, H⟩ := H; have c19b0 := eq_true c19; have c19b1 := decide_eq_true c19
   try have c19b2 : (9223372036854775807 < x3_1.size + t210.size) = False := eq_false (Nat.not_lt.2 c19)
   have H' := Aside0.mk H; clear H; obtain ⟨hcz20_0, hcz20_1, hcz20_2, hcz20_3, hcz20_4, hfz20_0, hfz20_1, hfz20_2, hfz20_3, hfz20_4⟩ := cq5_ BK204.out; have p207 : 0 ≤ ((ji12) : Int) := dt_; have q207 : (ji12) < (l0_1.length : Int) := dt_; obtain ⟨ad207, e207, hx207_0, hx207_1, hx207_2, hx207_3⟩ := at_T46 HR0_1.out (ji12) p207 q207; cases e207; replace hx207_0 := pw_cell_below HB.out hx207_0; replace hx207_1 := pw_cell_below HB.out hx207_1; replace hx207_2 := pw_cell_below HB.out hx207_2; replace hx207_3 := pw_cell_below HB.out hx207_3; replace p207 := eq_true p207; replace q207 := eq_true q207
   go_wp2_with (first | (go_at_call 26; (with_reducible refine (salchowref11_is.calls k1 ((rd_T46 l0_1 (ji12)).f0) ((rd_T46 l0_1 (ji12)).f1) ((rd_T46 l0_1 (ji12)).f2) ((rd_T46 l0_1 (ji12)).f3) (⟨#[40]⟩ : ByteArray) true _ A15.out).mono ?_); rintro e w21 ⟨rfl, hb⟩; refine cut2_ (bb_ BK204.out hb) (below_step (bl1_ HB.out GE204.out) hb) ?_; clear BK204 HB; intro BK204 HB; (try clear hb); (try clear hb2); (try clear hk); (try clear hi); obtain ⟨hcz22_0, hcz22_1, hcz22_2, hcz22_3, hcz22_4, hfz22_0, hfz22_1, hfz22_2, hfz22_3, hfz22_4⟩ := cq5_ BK204.out; have p209 : 0 ≤ (x4_1 : Int) := dt_; have q209 : x4_1 < (l0_1.length : Int) := dt_; obtain ⟨ad209, e209, hx209_0, hx209_1, hx209_2, hx209_3⟩ := at_T46 HR0_1.out x4_1 p209 q209; obtain rfl : ad207 = ad209 := (by injection e209); replace hx209_0 := pw_cell_below HB.out hx209_0; replace hx209_1 := pw_cell_below HB.out hx209_1; replace hx209_2 := pw_cell_below HB.out hx209_2; replace hx209_3 := pw_cell_below HB.out hx209_3; replace p209 := eq_true p209; replace q209 := eq_true q209) | ((with_reducible refine gate_callee (f := 27) rfl ?_); refine gk_ (some 43) Tryz.func27 (salchowref09_Spell.calls k1 ((rd_T46 l0_1 x4_1).f0) ((rd_T46 l0_1 x4_1).f1) ((rd_T46 l0_1 x4_1).f2) ((rd_T46 l0_1 x4_1).f3) t210 _ ?side1 A18.out) ?_; (case side1 => exact Gl.below hG (bl1_ HB.out GE204.out)); rintro e w23 ⟨rfl, hb⟩; refine ⟨_, rfl, ?_⟩; refine cut2_ (bb_ BK204.out hb) (below_step (bl1_ HB.out GE204.out) hb) ?_; clear hb BK204 HB; intro BK204 HB))
   go_roundg k1
   case measure => have := HK1.out; omega
   case rel => exact ⟨(x3_1 ++ t210), (wrap64 (x4_1 + 1)), sr_, sr_, H', ⟨om_ HK1.out⟩, ⟨bk_ BK204.out⟩, ⟨bl1_ HB.out GE204.out⟩⟩
  replace H := gd_ H; obtain ⟨c24b0, H⟩ := H; replace H := bn_ H; obtain ⟨t212, A25, H⟩ := H; (try dsimp only at H); replace H := sb_ H; obtain ⟨rfl, H⟩ | ⟨rfl, H⟩ := H
  ·
   replace H := bn_ H; obtain ⟨t214, A27, H⟩ := H; (try dsimp only at H); replace H := gp_ H; obtain ⟨c28, H⟩ := H; have c28b0 := eq_true c28; have c28b1 := decide_eq_true c28
   try have c28b2 : (9223372036854775807 < x3_1.size + t214.size) = False := eq_false (Nat.not_lt.2 c28)
   have H' := Aside0.mk H; clear H; obtain ⟨hcz29_0, hcz29_1, hcz29_2, hcz29_3, hcz29_4, hfz29_0, hfz29_1, hfz29_2, hfz29_3, hfz29_4⟩ := cq5_ BK204.out; have p207 : 0 ≤ ((ji12) : Int) := dt_; have q207 : (ji12) < (l0_1.length : Int) := dt_; obtain ⟨ad207, e207, hx207_0, hx207_1, hx207_2, hx207_3⟩ := at_T46 HR0_1.out (ji12) p207 q207; cases e207; replace hx207_0 := pw_cell_below HB.out hx207_0; replace hx207_1 := pw_cell_below HB.out hx207_1; replace hx207_2 := pw_cell_below HB.out hx207_2; replace hx207_3 := pw_cell_below HB.out hx207_3; replace p207 := eq_true p207; replace q207 := eq_true q207
   go_wp2_with (first | (go_at_call 26; (with_reducible refine (salchowref11_is.calls k1 ((rd_T46 l0_1 (ji12)).f0) ((rd_T46 l0_1 (ji12)).f1) ((rd_T46 l0_1 (ji12)).f2) ((rd_T46 l0_1 (ji12)).f3) (⟨#[40]⟩ : ByteArray) false _ A15.out).mono ?_); rintro e w30 ⟨rfl, hb⟩; refine cut2_ (bb_ BK204.out hb) (below_step (bl1_ HB.out GE204.out) hb) ?_; clear BK204 HB; intro BK204 HB; (try clear hb); (try clear hb2); (try clear hk); (try clear hi); obtain ⟨hcz31_0, hcz31_1, hcz31_2, hcz31_3, hcz31_4, hfz31_0, hfz31_1, hfz31_2, hfz31_3, hfz31_4⟩ := cq5_ BK204.out; have p211 : 0 ≤ (x4_1 : Int) := dt_; have q211 : x4_1 < (l0_1.length : Int) := dt_; obtain ⟨ad211, e211, hx211_0, hx211_1, hx211_2, hx211_3⟩ := at_T46 HR0_1.out x4_1 p211 q211; obtain rfl : ad207 = ad211 := (by injection e211); replace hx211_0 := pw_cell_below HB.out hx211_0; replace hx211_1 := pw_cell_below HB.out hx211_1; replace hx211_2 := pw_cell_below HB.out hx211_2; replace hx211_3 := pw_cell_below HB.out hx211_3; replace p211 := eq_true p211; replace q211 := eq_true q211) | (go_at_call 26; (with_reducible refine (salchowref11_is.calls k1 ((rd_T46 l0_1 x4_1).f0) ((rd_T46 l0_1 x4_1).f1) ((rd_T46 l0_1 x4_1).f2) ((rd_T46 l0_1 x4_1).f3) (⟨#[41, 44]⟩ : ByteArray) true _ A25.out).mono ?_); rintro e w32 ⟨rfl, hb⟩; refine cut2_ (bb_ BK204.out hb) (below_step (bl1_ HB.out GE204.out) hb) ?_; clear BK204 HB; intro BK204 HB; (try clear hb); (try clear hb2); (try clear hk); (try clear hi); obtain ⟨hcz33_0, hcz33_1, hcz33_2, hcz33_3, hcz33_4, hfz33_0, hfz33_1, hfz33_2, hfz33_3, hfz33_4⟩ := cq5_ BK204.out; have p213 : 0 ≤ (x4_1 : Int) := dt_; have q213 : x4_1 < (l0_1.length : Int) := dt_; obtain ⟨ad213, e213, hx213_0, hx213_1, hx213_2, hx213_3⟩ := at_T46 HR0_1.out x4_1 p213 q213; obtain rfl : ad207 = ad213 := (by injection e213); replace hx213_0 := pw_cell_below HB.out hx213_0; replace hx213_1 := pw_cell_below HB.out hx213_1; replace hx213_2 := pw_cell_below HB.out hx213_2; replace hx213_3 := pw_cell_below HB.out hx213_3; replace p213 := eq_true p213; replace q213 := eq_true q213) | ((with_reducible refine gate_callee (f := 27) rfl ?_); refine gk_ (some 43) Tryz.func27 (salchowref09_Spell.calls k1 ((rd_T46 l0_1 x4_1).f0) ((rd_T46 l0_1 x4_1).f1) ((rd_T46 l0_1 x4_1).f2) ((rd_T46 l0_1 x4_1).f3) t214 _ ?side1 A27.out) ?_; (case side1 => exact Gl.below hG (bl1_ HB.out GE204.out)); rintro e w34 ⟨rfl, hb⟩; refine ⟨_, rfl, ?_⟩; refine cut2_ (bb_ BK204.out hb) (below_step (bl1_ HB.out GE204.out) hb) ?_; clear hb BK204 HB; intro BK204 HB))
   go_roundg k1
   case measure => have := HK1.out; omega
   case rel => exact ⟨(x3_1 ++ t214), (wrap64 (x4_1 + 1)), sr_, sr_, H', ⟨om_ HK1.out⟩, ⟨bk_ BK204.out⟩, ⟨bl1_ HB.out GE204.out⟩⟩
  replace H := gp_ H; obtain ⟨c35, H⟩ := H; have c35b0 := eq_true c35; have c35b1 := decide_eq_true c35
  try have c35b2 : (9223372036854775807 < x3_1.size + 1) = False := eq_false (Nat.not_lt.2 c35)
  replace H := bn_ H; obtain ⟨t216, A36, H⟩ := H; (try dsimp only at H); replace H := gp_ H; obtain ⟨c37, H⟩ := H; have c37b0 := eq_true c37; have c37b1 := decide_eq_true c37; (try (have c37b3 : (9223372036854775807 < x3_1.size + 1 + t216.size) = False := eq_false (Nat.not_lt.2 (by have h_ := c37; simp only [ByteArray.size_append] at h_; exact h_)))); (try (have c37b4 : (x3_1.size + 1 + t216.size ≤ 9223372036854775807) = True := eq_true (by have h_ := c37; simp only [ByteArray.size_append] at h_; exact h_)))
  try have c37b2 : (9223372036854775807 < (x3_1 ++ (⟨#[32]⟩ : ByteArray)).size + t216.size) = False := eq_false (Nat.not_lt.2 c37)
  have H' := Aside0.mk H; clear H; obtain ⟨hcz38_0, hcz38_1, hcz38_2, hcz38_3, hcz38_4, hfz38_0, hfz38_1, hfz38_2, hfz38_3, hfz38_4⟩ := cq5_ BK204.out; have p207 : 0 ≤ ((ji12) : Int) := dt_; have q207 : (ji12) < (l0_1.length : Int) := dt_; obtain ⟨ad207, e207, hx207_0, hx207_1, hx207_2, hx207_3⟩ := at_T46 HR0_1.out (ji12) p207 q207; cases e207; replace hx207_0 := pw_cell_below HB.out hx207_0; replace hx207_1 := pw_cell_below HB.out hx207_1; replace hx207_2 := pw_cell_below HB.out hx207_2; replace hx207_3 := pw_cell_below HB.out hx207_3; replace p207 := eq_true p207; replace q207 := eq_true q207
  go_wp2_with (first | (go_at_call 26; (with_reducible refine (salchowref11_is.calls k1 ((rd_T46 l0_1 (ji12)).f0) ((rd_T46 l0_1 (ji12)).f1) ((rd_T46 l0_1 (ji12)).f2) ((rd_T46 l0_1 (ji12)).f3) (⟨#[40]⟩ : ByteArray) false _ A15.out).mono ?_); rintro e w39 ⟨rfl, hb⟩; refine cut2_ (bb_ BK204.out hb) (below_step (bl1_ HB.out GE204.out) hb) ?_; clear BK204 HB; intro BK204 HB; (try clear hb); (try clear hb2); (try clear hk); (try clear hi); obtain ⟨hcz40_0, hcz40_1, hcz40_2, hcz40_3, hcz40_4, hfz40_0, hfz40_1, hfz40_2, hfz40_3, hfz40_4⟩ := cq5_ BK204.out; have p211 : 0 ≤ (x4_1 : Int) := dt_; have q211 : x4_1 < (l0_1.length : Int) := dt_; obtain ⟨ad211, e211, hx211_0, hx211_1, hx211_2, hx211_3⟩ := at_T46 HR0_1.out x4_1 p211 q211; obtain rfl : ad207 = ad211 := (by injection e211); replace hx211_0 := pw_cell_below HB.out hx211_0; replace hx211_1 := pw_cell_below HB.out hx211_1; replace hx211_2 := pw_cell_below HB.out hx211_2; replace hx211_3 := pw_cell_below HB.out hx211_3; replace p211 := eq_true p211; replace q211 := eq_true q211) | (go_at_call 26; (with_reducible refine (salchowref11_is.calls k1 ((rd_T46 l0_1 x4_1).f0) ((rd_T46 l0_1 x4_1).f1) ((rd_T46 l0_1 x4_1).f2) ((rd_T46 l0_1 x4_1).f3) (⟨#[41, 44]⟩ : ByteArray) false _ A25.out).mono ?_); rintro e w41 ⟨rfl, hb⟩; refine cut2_ (bb_ BK204.out hb) (below_step (bl1_ HB.out GE204.out) hb) ?_; clear BK204 HB; intro BK204 HB; (try clear hb); (try clear hb2); (try clear hk); (try clear hi); obtain ⟨hcz42_0, hcz42_1, hcz42_2, hcz42_3, hcz42_4, hfz42_0, hfz42_1, hfz42_2, hfz42_3, hfz42_4⟩ := cq5_ BK204.out; have p215 : 0 ≤ (x4_1 : Int) := dt_; have q215 : x4_1 < (l0_1.length : Int) := dt_; obtain ⟨ad215, e215, hx215_0, hx215_1, hx215_2, hx215_3⟩ := at_T46 HR0_1.out x4_1 p215 q215; obtain rfl : ad207 = ad215 := (by injection e215); replace hx215_0 := pw_cell_below HB.out hx215_0; replace hx215_1 := pw_cell_below HB.out hx215_1; replace hx215_2 := pw_cell_below HB.out hx215_2; replace hx215_3 := pw_cell_below HB.out hx215_3; replace p215 := eq_true p215; replace q215 := eq_true q215) | ((with_reducible refine gate_callee (f := 27) rfl ?_); refine gk_ (some 43) Tryz.func27 (salchowref09_Spell.calls k1 ((rd_T46 l0_1 x4_1).f0) ((rd_T46 l0_1 x4_1).f1) ((rd_T46 l0_1 x4_1).f2) ((rd_T46 l0_1 x4_1).f3) t216 _ ?side1 A36.out) ?_; (case side1 => exact Gl.below hG (bl1_ HB.out GE204.out)); rintro e w43 ⟨rfl, hb⟩; refine ⟨_, rfl, ?_⟩; refine cut2_ (bb_ BK204.out hb) (below_step (bl1_ HB.out GE204.out) hb) ?_; clear hb BK204 HB; intro BK204 HB))
  go_roundg k1
  case measure => have := HK1.out; omega
  case rel => exact ⟨((x3_1 ++ (⟨#[32]⟩ : ByteArray)) ++ t216), (wrap64 (x4_1 + 1)), sr_, sr_, H', ⟨om_ HK1.out⟩, ⟨bk_ BK204.out⟩, ⟨bl1_ HB.out GE204.out⟩⟩
end Go.Proofs.YtkifdadhojbohaaGreatDoor.Pr
namespace Go.Proofs.YtkifdadhojbohaaGreatDoor.Pu
open Go.RowKit Go.Proofs.YtkifdadhojbohaaGreatDoor Go.Proofs.YtkifdadhojbohaaGreatDoor.Pr Go.Proofs.YtkifdadhojbohaaGreatDoorW.PrintWords Go.Proofs.YtkifdadhojbohaaGreatDoorW.PrintLast Go.Proofs.YtkifdadhojbohaaGreatDoorW.PrintMore
theorem one_ext (s : ByteArray) {i : Nat} {c : UInt8} {r : List UInt8} (h : (lst s).drop i = c :: r) : (s.extract ((i : Int)).toNat (((i + 1 : Nat) : Int)).toNat).toList = [c] := by
  rw [toList_lst, lst_extract, Int.toNat_natCast, Int.toNat_natCast, List.drop_take, h, show i + 1 - i = 1 by omega]
  rfl
theorem is_f (t : S46) (s : ByteArray) (hs : s.size ≤ 1000) : Ev (fun k => salchowref11_is.f k t.f0 t.f1 t.f2 t.f3 s) ((lst s).any fun c => isS t c) := by
  have loop : ∀ (l : List UInt8) (i : Nat), (lst s).drop i = l → i ≤ s.size → Ev (fun k => salchowref11_is.l0 k s (i : Int) t.f0 t.f1 t.f2 t.f3) (l.any fun c => isS t c) := by
    intro l
    induction l with
    | nil =>
      intro i hd hi
      have := at_nil hi hd
      refine Ev.succ ?_
      simp only [salchowref11_is.l0]
      exact Ev.ifn (by omega) (Ev.now _)
    | cons c l ih =>
      intro i hd hi
      obtain ⟨h1, _, h3⟩ := at_cons hd
      have hn := ih (i + 1) h3 (by omega)
      refine Ev.succ ?_
      simp only [salchowref11_is.l0]
      rw [wrap_nat i (by omega)]
      refine Ev.ifp (by omega) ?_
      by_cases h4 : t.f0 = 4
      · refine Ev.ifp h4 (Ev.ifp natO (Ev.ifp (by omega) (Ev.ifp (by omega) ?_)))
        rw [one_ext s hd, toList_lst]
        by_cases he : lst t.f1 = [c]
        · exact Ev.ifp he (Ev.ret (by simp [isS, h4, he]))
        · refine Ev.ifn he ?_
          have : isS t c = false := by simp [isS, he]
          rw [List.any_cons, this, Bool.false_or]
          exact hn
      · refine Ev.ifn h4 ?_
        have : isS t c = false := by simp [isS, h4]
        rw [List.any_cons, this, Bool.false_or]
        exact hn
  unfold salchowref11_is.f
  exact loop (lst s) 0 rfl (by omega)
theorem is40_f (t : S46) : Ev (fun k => salchowref11_is.f k t.f0 t.f1 t.f2 t.f3 (⟨#[40]⟩ : ByteArray)) (isS t 40) := by
  have := is_f t (⟨#[40]⟩ : ByteArray) (by decide)
  simpa [lst] using this
theorem is41_f (t : S46) : Ev (fun k => salchowref11_is.f k t.f0 t.f1 t.f2 t.f3 (⟨#[41, 44]⟩ : ByteArray)) (isS t 41 || isS t 44) := by
  have := is_f t (⟨#[41, 44]⟩ : ByteArray) (by decide)
  simpa [lst] using this
theorem str_one (c : UInt8) : (⟨#[c]⟩ : ByteArray) = str [c] := rfl
theorem rLine_f (c : S41) (hw : c.f0.size ≤ 1000000) (ha : ∀ t ∈ c.f1, t.f1.size ≤ 1000000) (hn : c.f1.length ≤ 900000) (hlen : (firstL c).length ≤ 9000000000000000000) :
    Ev (fun k => salchowref11_Line.f k c.f0 c.f1 c.f2 c.f3 c.f4) (str (firstL c)) := by
  have hf : (lst c.f0 ++ atomsL none c.f1).length + 2 ≤ 9000000000000000002 := by
    unfold firstL at hlen
    simp only [List.length_append] at hlen ⊢
    split at hlen <;> simp at hlen <;> omega
  have loop : ∀ (ts : List S46) (i : Nat) (acc : List UInt8), c.f1.drop i = ts → i ≤ c.f1.length → acc ++ atomsL (if i = 0 then none else some (rd_T46 c.f1 ((i : Int) - 1))) ts = lst c.f0 ++ atomsL none c.f1 →
      Ev (fun k => salchowref11_Line.l0 k (str acc) (i : Int) c.f0 c.f1 c.f2 c.f3 c.f4) (str (firstL c)) := by
    intro ts
    induction ts with
    | nil =>
      intro i acc hd hi hacc
      have hi2 : c.f1.length ≤ i := List.drop_eq_nil_iff.1 hd
      rw [atomsL, List.append_nil] at hacc
      refine Ev.succ ?_
      simp only [salchowref11_Line.l0]
      have hl : (str acc).size + 2 ≤ 9000000000000000002 := by rw [size_str, hacc]; exact hf
      refine Ev.ifn (by omega) ?_
      unfold firstL
      by_cases hb : c.f2 = true
      · refine Ev.ifp hb (Ev.ifp (Nat.le_trans hl (Nat.le_of_ble_eq_true rfl)) (Ev.ret ?_))
        rw [if_pos hb, show (⟨#[32, 123]⟩ : ByteArray) = str [32, 123] from rfl, str_append, hacc, List.append_assoc]
      · refine Ev.ifn hb (Ev.ifp (Nat.le_trans (Nat.le_trans (Nat.add_le_add_left (by decide : 1 ≤ 2) _) hl) (Nat.le_of_ble_eq_true rfl)) (Ev.ret ?_))
        rw [if_neg hb, str_one, str_append, hacc, List.append_assoc]
    | cons t ts ih =>
      intro i acc hd hi hacc
      obtain ⟨g1, g2, g3⟩ := rd_at hd
      have hm : t ∈ c.f1 := List.mem_of_mem_drop (by rw [hd]; simp)
      have hsp := rSpell_f t.f0 t.f1 (ha t hm) t.f2 t.f3
      have hp1 : rd_T46 c.f1 (((i + 1 : Nat) : Int) - 1) = t := by rw [show ((i + 1 : Nat) : Int) - 1 = (i : Int) by omega]; exact g2
      have next : ∀ acc' : List UInt8, acc' ++ atomsL (some t) ts = lst c.f0 ++ atomsL none c.f1 → Ev (fun k => salchowref11_Line.l0 k (str acc') ((i + 1 : Nat) : Int) c.f0 c.f1 c.f2 c.f3 c.f4) (str (firstL c)) := by
        intro acc' h
        refine ih (i + 1) acc' g3 (by omega) ?_
        rw [if_neg (by omega), hp1]
        exact h
      have big : ∀ x y : List UInt8, acc ++ (x ++ y) ++ atomsL (some t) ts = lst c.f0 ++ atomsL none c.f1 → acc.length + x.length + y.length ≤ 9223372036854775807 := by
        intro x y h
        have := congrArg List.length h
        rw [List.length_append, List.length_append, List.length_append] at this
        refine Nat.le_trans (m := 9000000000000000002) ?_ (Nat.le_of_ble_eq_true rfl)
        generalize (lst c.f0 ++ atomsL none c.f1).length = z at this hf
        omega
      -- a blank and the atom
      have blank : acc ++ ([32] ++ sp t) ++ atomsL (some t) ts = lst c.f0 ++ atomsL none c.f1 → Ev (fun k => if (str acc).size + 1 ≤ 9223372036854775807 then (salchowref09_Spell.f k t.f0 t.f1 t.f2 t.f3).bind fun u => (if ((str acc) ++ (⟨#[32]⟩ : ByteArray)).size + u.size ≤ 9223372036854775807 then salchowref11_Line.l0 k (((str acc) ++ (⟨#[32]⟩ : ByteArray)) ++ u) ((i + 1 : Nat) : Int) c.f0 c.f1 c.f2 c.f3 c.f4 else none) else none) (str (firstL c)) := by
        intro h
        have hb := big [32] (sp t) h
        refine Ev.ifp (by rw [size_str]; exact Nat.le_trans (Nat.le_add_right _ _) hb) (Ev.bind hsp ?_)
        rw [str_one, str_append]
        refine Ev.ifp (by rw [size_str, size_str, List.length_append]; exact hb) ?_
        rw [str_append]
        refine next _ ?_
        simp only [List.append_assoc] at h ⊢
        exact h
      have tight : acc ++ ([] ++ sp t) ++ atomsL (some t) ts = lst c.f0 ++ atomsL none c.f1 → Ev (fun k => (salchowref09_Spell.f k t.f0 t.f1 t.f2 t.f3).bind fun u => (if (str acc).size + u.size ≤ 9223372036854775807 then salchowref11_Line.l0 k ((str acc) ++ u) ((i + 1 : Nat) : Int) c.f0 c.f1 c.f2 c.f3 c.f4 else none)) (str (firstL c)) := by
        intro h
        have hb := big [] (sp t) h
        refine Ev.bind hsp (Ev.ifp (by rw [size_str, size_str]; exact hb) ?_)
        rw [str_append]
        refine next _ ?_
        rw [List.nil_append] at h
        exact h
      have w1 : wrap64 ((i : Int) + 1) = ((i + 1 : Nat) : Int) := wrap_nat i (by omega)
      rw [atomsL] at hacc
      refine Ev.succ ?_
      simp only [salchowref11_Line.l0]
      rw [w1, g2]
      refine Ev.ifp (by omega) ?_
      by_cases h0 : i = 0
      · subst h0
        rw [if_pos rfl] at hacc
        have hg : glue none t = false := rfl
        rw [hg] at hacc
        refine Ev.ifp rfl ?_
        have e : ∀ k, (if (str acc).size + 1 ≤ 9223372036854775807 then (if (0 : Int) ≤ ((0 : Nat) : Int) then ((salchowref09_Spell.f k t.f0 t.f1 t.f2 t.f3).bind fun u => (if ((str acc) ++ (⟨#[32]⟩ : ByteArray)).size + u.size ≤ 9223372036854775807 then salchowref11_Line.l0 k (((str acc) ++ (⟨#[32]⟩ : ByteArray)) ++ u) ((0 + 1 : Nat) : Int) c.f0 c.f1 c.f2 c.f3 c.f4 else none)) else none) else none) = (if (str acc).size + 1 ≤ 9223372036854775807 then (salchowref09_Spell.f k t.f0 t.f1 t.f2 t.f3).bind fun u => (if ((str acc) ++ (⟨#[32]⟩ : ByteArray)).size + u.size ≤ 9223372036854775807 then salchowref11_Line.l0 k (((str acc) ++ (⟨#[32]⟩ : ByteArray)) ++ u) ((0 + 1 : Nat) : Int) c.f0 c.f1 c.f2 c.f3 c.f4 else none) else none) := fun k => by rw [if_pos (show (0 : Int) ≤ ((0 : Nat) : Int) from natO)]
        refine Ev.congr e (blank ?_)
        rw [if_neg Bool.false_ne_true] at hacc
        rw [← hacc, List.append_assoc, List.append_assoc]
      · have wm : wrap64 ((i : Int) - 1) = (i : Int) - 1 := wrap64_of (by omega) (by omega)
        rw [if_neg h0] at hacc
        rw [wm]
        refine Ev.ifn (by omega) (Ev.ifp (by omega) (Ev.ifp (by omega) (Ev.bind (is40_f (rd_T46 c.f1 ((i : Int) - 1))) ?_)))
        generalize rd_T46 c.f1 ((i : Int) - 1) = p at hacc
        cases h40 : isS p 40 with
        | true =>
          refine Ev.ifp rfl (Ev.ifp natO (tight ?_))
          rw [if_pos (by simp [glue, h40])] at hacc
          rw [← hacc, List.append_assoc, List.append_assoc]
        | false =>
          refine Ev.ifn Bool.false_ne_true (Ev.ifp natO (Ev.bind (is41_f t) ?_))
          cases h41 : (isS t 41 || isS t 44) with
          | true =>
            refine Ev.ifp rfl (tight ?_)
            rw [if_pos (by simp only [glue, h40, h41, Bool.false_or])] at hacc
            rw [← hacc, List.append_assoc, List.append_assoc]
          | false =>
            refine Ev.ifn Bool.false_ne_true (blank ?_)
            rw [if_neg (by simp only [glue, h40, h41, Bool.false_or]; exact Bool.false_ne_true)] at hacc
            rw [← hacc, List.append_assoc, List.append_assoc]
  unfold salchowref11_Line.f
  have := loop c.f1 0 (lst c.f0) rfl (by omega) (by rw [if_pos rfl])
  rwa [str_lst] at this
end Go.Proofs.YtkifdadhojbohaaGreatDoor.Pu
