/- Joined out of the texts of this proof that bear the names PrF81 PrF70 PuA PrF82 PrF91 PrF106 PrF83 PrF64 PrF84 PrF55 PuB PuC PrF25 PuD: what each shows stands over it there. -/
import Derived.Test.YtkifdadhojbohaaGreatDoorEk1
import Derived.Test.YtkifdadhojbohaaGreatDoorEb1
set_option linter.unusedVariables false
set_option linter.unusedSimpArgs false
set_option maxHeartbeats 8000000
set_option maxRecDepth 100000
namespace Go.Proofs.YtkifdadhojbohaaGreatDoor.Pr
open Go.Proofs.YtkifdadhojbohaaGreatDoor
open Go.RowKit Go.Proofs.YtkifdadhojbohaaGreatDoorW.PrintWords Go.Proofs.YtkifdadhojbohaaGreatDoorW.PrintLast Go.Proofs.YtkifdadhojbohaaGreatDoorW.PrintMore
attribute [local go_sem] fU fQ gL gK eT eQ fT fP
mutual
def bv.l0 : Nat → ByteArray → Int → Option (Int)
 | 0, _, _ => none
 | k + 1, x0, x1 => if x1 < (x0.size : Int) then (if 0 ≤ x1 then (if (bt x0 x1) = 35 then (bv.l1 k x0 x1) else ((aR.f).bind fun t101 => (if 0 ≤ (bt x0 x1) then (if (bt x0 x1) < 256 then (if (aR.at_ (bt x0 x1)) = 1 then (bv.l0 k x0 (wrap64 (x1 + 1))) else (some x1)) else (none)) else (none)))) else (none)) else (some x1)
def bv.l1 : Nat → ByteArray → Int → Option (Int)
 | 0, _, _ => none
 | k + 1, x0, x1 => if x1 < (x0.size : Int) then (if 0 ≤ x1 then (if (bt x0 x1) = 10 then (bv.l0 k x0 x1) else (bv.l1 k x0 (wrap64 (x1 + 1)))) else (none)) else (bv.l0 k x0 x1)
end
def bv.f (k : Nat) (a0 : ByteArray) (a1 : Int) : Option (Int) := bv.l0 k a0 a1
theorem bv.mono_l : ∀ k, (∀ y0 y1, LeO (bv.l0 k y0 y1) (bv.l0 (k + 1) y0 y1)) ∧ (∀ y0 y1, LeO (bv.l1 k y0 y1) (bv.l1 (k + 1) y0 y1))
 | 0 => ⟨fun _ _ r h => by simp [bv.l0] at h, fun _ _ r h => by simp [bv.l1] at h⟩
 | k + 1 => by
  obtain ⟨ih0, ih1⟩ := bv.mono_l k
  refine ⟨?_, ?_⟩
  ·
   intro y0 y1
   unfold bv.l0
   repeat' first
   | (with_reducible exact LeO.refl _)
   | exact ih0 _ _
   | exact ih1 _ _
   | exact LeO.none _
   | refine LeO.ite ?_ ?_
   | refine LeO.bind ?_ (fun _ => ?_)
  ·
   intro y0 y1
   unfold bv.l1
   repeat' first
   | (with_reducible exact LeO.refl _)
   | exact ih0 _ _
   | exact ih1 _ _
   | exact LeO.none _
   | refine LeO.ite ?_ ?_
   | refine LeO.bind ?_ (fun _ => ?_)
theorem bv.mono : ∀ a0 a1 k, LeO (bv.f k a0 a1) (bv.f (k + 1) a0 a1) := by
 intro a0 a1 k
 obtain ⟨ih0, ih1⟩ := bv.mono_l k
 unfold bv.f
 repeat' first
   | (with_reducible exact LeO.refl _)
   | exact ih0 _ _
   | exact ih1 _ _
   | exact LeO.none _
   | refine LeO.ite ?_ ?_
   | refine LeO.bind ?_ (fun _ => ?_)
theorem bv.calls (k : Nat) (a0 : ByteArray) (a1 : Int) (r : Int) (w : World) (h : bv.f k a0 a1 = some r) :
  Calls Tryz.prog 85 #[.string a0, .int .i64 a1] w fun e w' => e = .returned (.int .i64 r) ∧ Below w.heap.size w w' := by
 have HB := af.mk (Below.refl w.heap.size w); have H : (bv.l0 k a0 a1) = some r := h; clear h; have H' := af.mk H; clear H
 go_enter Tryz.func85, Tryz.ntmps85
 go_wp2
 go_loopg [1] k (fun kq v1 w' => ∃ (x1_1 : Int), v1 = .int .i64 x1_1 ∧ af (bv.l0 kq a0 x1_1 = some r) ∧ af (kq ≤ k) ∧ af (Below w.heap.size w w'))
 case atStart => exact ⟨(a1), sr_, H', ⟨Nat.le_refl _⟩, ⟨bl_ HB.1⟩⟩
 case round =>
  clear H'; obtain ⟨x1_1, rfl, HA, HK1, HB⟩ := hrel; obtain _ | k1 := gk
  · exact absurd HA.1 (by simp [bv.l0])
  have H := HA.1; clear HA; simp only [bv.l0] at H; replace H := (sd_ H).symm; obtain ⟨c3b0, H⟩ | ⟨c3b0, H⟩ := H
  ·
   obtain rfl := Option.some.inj H
   go_wp2
   go_ret
   exact ⟨er_, bl_ HB.1⟩
  replace H := gd_ H; obtain ⟨c4b0, H⟩ := H; replace H := sp_ H; obtain ⟨c6, H⟩ | ⟨c6, H⟩ := H
  ·
   have c6b0 := beq_iff_eq.mpr c6; have c6b1 := bne_eq_false_iff_eq.mpr c6; clear c6; have H' := af.mk H; clear H; have p5 : (0 ≤ (x1_1 : Int)) = True := dT_; have q5 : (x1_1 < (a0.size : Int)) = True := dT_; have hx5 := bS a0 x1_1
   go_wp2
   go_loopg [1] k1 (fun kq v1 w' => ∃ (x1_2 : Int), v1 = .int .i64 x1_2 ∧ af (bv.l1 kq a0 x1_2 = some r) ∧ af (kq ≤ k1) ∧ af (Below w.heap.size w w'))
   case atStart => exact ⟨(x1_1), sr_, H', ⟨Nat.le_refl _⟩, ⟨bl_ HB.1⟩⟩
   case round =>
    clear H'; (try clear c3); (try clear c3b0); (try clear c4); (try clear c4b0); (try clear p5); (try clear q5); (try clear hx5); (try clear c6); (try clear c6b0); (try clear c6b1); (try clear p5); (try clear q5); obtain ⟨x1_2, rfl, HA, HK2, HB⟩ := hrel; obtain _ | k2 := gk
    · exact absurd HA.1 (by simp [bv.l1])
    have H := HA.1; clear HA; simp only [bv.l1] at H; replace H := (sd_ H).symm; obtain ⟨c7b0, H⟩ | ⟨c7b0, H⟩ := H
    ·
     have H' := af.mk H; clear H
     go_wp2
     go_roundg k2
     case measure => have := HK1.1; have := HK2.1; omega
     case rel => exact ⟨(x1_2), sr_, H', ⟨by have := HK1.1; have := HK2.1; omega⟩, ⟨bl_ HB.1⟩⟩
    replace H := gd_ H; obtain ⟨c8b0, H⟩ := H; replace H := (sp_ H).symm; obtain ⟨c10, H⟩ | ⟨c10, H⟩ := H
    ·
     have c10b0 := beq_eq_false_iff_ne.mpr c10; have c10b1 := bne_iff_ne.mpr c10; have H' := af.mk H; clear H; have p9 : (0 ≤ (x1_2 : Int)) = True := dT_; have q9 : (x1_2 < (a0.size : Int)) = True := dT_; have hx9 := bS a0 x1_2
     go_wp2
     go_roundg k2
     case measure => have := HK1.1; have := HK2.1; omega
     case rel => exact ⟨(wrap64 (x1_2 + 1)), sr_, H', ⟨by have := HK1.1; have := HK2.1; omega⟩, ⟨bl_ HB.1⟩⟩
    have c10b0 := beq_iff_eq.mpr c10; have c10b1 := bne_eq_false_iff_eq.mpr c10; clear c10; have H' := af.mk H; clear H; have p9 : (0 ≤ (x1_2 : Int)) = True := dT_; have q9 : (x1_2 < (a0.size : Int)) = True := dT_; have hx9 := bS a0 x1_2
    go_wp2
    go_roundg k2
    case measure => have := HK1.1; have := HK2.1; omega
    case rel => exact ⟨(x1_2), sr_, H', ⟨by have := HK1.1; have := HK2.1; omega⟩, ⟨bl_ HB.1⟩⟩
  have c6b0 := beq_eq_false_iff_ne.mpr c6; have c6b1 := bne_iff_ne.mpr c6; replace H := bn_ H; obtain ⟨t101, A11, H⟩ := H; (try dsimp only at H); replace H := gd_ H; obtain ⟨c13b0, H⟩ := H; replace H := gd_ H; obtain ⟨c14b0, H⟩ := H; replace H := (sp_ H).symm; obtain ⟨c16, H⟩ | ⟨c16, H⟩ := H
  ·
   have c16b0 := beq_eq_false_iff_ne.mpr c16; have c16b1 := bne_iff_ne.mpr c16; obtain rfl := Option.some.inj H; have p5 : (0 ≤ (x1_1 : Int)) = True := dT_; have q5 : (x1_1 < (a0.size : Int)) = True := dT_; have hx5 := bS a0 x1_1
   try go_wp2
   refine gD (bD HB.1) ?_; clear HB; intro HB; have p12 : (0 ≤ (x1_1 : Int)) = True := dT_; have q12 : (x1_1 < (a0.size : Int)) = True := dT_; have hx12 := bS a0 x1_1; refine dX (n := 6) (S := fun w' => True) (ds := []) (bm_ 6 0) (by kernel_rfl) rfl (by kernel_rfl) trivial (fun hHeld => ?_); generalize wr.drew = w19 at HB hHeld ⊢; refine pr_ (i := 1) (N := some 26) (bm_ 6 2) (by kernel_rfl) ?_; refine pr_ (i := 2) (N := some 27) (bm_ 6 6) (by kernel_rfl) ?_; refine take_ (i := 3) (N := some 28) (v := ?_) (a' := ?_) (bm_ 6 14) rfl rfl (by kernel_rfl) (fun _ _ _ h => h) (Or.inl ⟨by rfl, ?_⟩) hHeld ?_ ?_; rotate_left
   ·
    intro w' _; go_simp
    with_reducible rfl
   rotate_left
   ·
    simp only [Act.put, List.setIfInBounds_toArray, List.set_cons_zero, List.set_cons_succ, cz, cK]
    rfl
   refine one_ (i := 0) (N := some 25) (bm_ 6 15) rfl rfl (by kernel_rfl) (by decide) (fun K hK => ?_); refine kP Tryz.func72 (by kernel_rfl) rfl #[] (by rfl) rfl rfl ga_ ?_
   with_reducible refine (aR.calls  t101 _ A11.1).mono ?_
   rintro e w20 ⟨rfl, hb⟩; refine ⟨_, rfl, ?_⟩; refine gD (ah (bl_ HB.1) hb) ?_; clear HB; intro HB; (try clear hb); have p15 : 0 ≤ ((bt a0 x1_1) : Int) := dt_; have q15 : ((bt a0 x1_1) : Int) < 256 := dt_; have hx15 := aR.at_run A11.1 (bt a0 x1_1) p15 q15; replace p15 := eq_true p15; replace q15 := eq_true q15; refine hK.out _ _ trivial (fun hHeld => ?_); clear hK K; refine nm_ ?_; refine take_ (i := 4) (N := some 29) (v := ?_) (a' := ?_) (bm_ 6 31) rfl rfl (by kernel_rfl) (fun _ _ _ h => h) (Or.inl ⟨by rfl, ?_⟩) hHeld ?_ ?_; rotate_left
   ·
    intro w' _; go_simp
    with_reducible rfl
   rotate_left
   ·
    simp only [Act.put, List.setIfInBounds_toArray, List.set_cons_zero, List.set_cons_succ, cz, cK]
    rfl
   refine pr_ (i := 5) (N := some 30) (bm_ 6 63) (by kernel_rfl) ?_; refine gB (by kernel_rfl) ?_
   try go_wp2
   go_ret
   exact ⟨er_, bl_ HB.1⟩
  have c16b0 := beq_iff_eq.mpr c16; have c16b1 := bne_eq_false_iff_eq.mpr c16; clear c16; have H' := af.mk H; clear H; have p5 : (0 ≤ (x1_1 : Int)) = True := dT_; have q5 : (x1_1 < (a0.size : Int)) = True := dT_; have hx5 := bS a0 x1_1
  try go_wp2
  refine gD (bD HB.1) ?_; clear HB; intro HB; have p12 : (0 ≤ (x1_1 : Int)) = True := dT_; have q12 : (x1_1 < (a0.size : Int)) = True := dT_; have hx12 := bS a0 x1_1; refine dX (n := 6) (S := fun w' => True) (ds := []) (bm_ 6 0) (by kernel_rfl) rfl (by kernel_rfl) trivial (fun hHeld => ?_); generalize wr.drew = w17 at HB hHeld ⊢; refine pr_ (i := 1) (N := some 26) (bm_ 6 2) (by kernel_rfl) ?_; refine pr_ (i := 2) (N := some 27) (bm_ 6 6) (by kernel_rfl) ?_; refine take_ (i := 3) (N := some 28) (v := ?_) (a' := ?_) (bm_ 6 14) rfl rfl (by kernel_rfl) (fun _ _ _ h => h) (Or.inl ⟨by rfl, ?_⟩) hHeld ?_ ?_; rotate_left
  ·
   intro w' _; go_simp
   with_reducible rfl
  rotate_left
  ·
   simp only [Act.put, List.setIfInBounds_toArray, List.set_cons_zero, List.set_cons_succ, cz, cK]
   rfl
  refine one_ (i := 0) (N := some 25) (bm_ 6 15) rfl rfl (by kernel_rfl) (by decide) (fun K hK => ?_); refine kP Tryz.func72 (by kernel_rfl) rfl #[] (by rfl) rfl rfl ga_ ?_
  with_reducible refine (aR.calls  t101 _ A11.1).mono ?_
  rintro e w18 ⟨rfl, hb⟩; refine ⟨_, rfl, ?_⟩; refine gD (ah (bl_ HB.1) hb) ?_; clear HB; intro HB; (try clear hb); have p15 : 0 ≤ ((bt a0 x1_1) : Int) := dt_; have q15 : ((bt a0 x1_1) : Int) < 256 := dt_; have hx15 := aR.at_run A11.1 (bt a0 x1_1) p15 q15; replace p15 := eq_true p15; replace q15 := eq_true q15; refine hK.out _ _ trivial (fun hHeld => ?_); clear hK K; refine nm_ ?_; refine take_ (i := 4) (N := some 29) (v := ?_) (a' := ?_) (bm_ 6 31) rfl rfl (by kernel_rfl) (fun _ _ _ h => h) (Or.inl ⟨by rfl, ?_⟩) hHeld ?_ ?_; rotate_left
  ·
   intro w' _; go_simp
   with_reducible rfl
  rotate_left
  ·
   simp only [Act.put, List.setIfInBounds_toArray, List.set_cons_zero, List.set_cons_succ, cz, cK]
   rfl
  refine pr_ (i := 5) (N := some 30) (bm_ 6 63) (by kernel_rfl) ?_; refine gB (by kernel_rfl) ?_
  try go_wp2
  go_roundg k1
  case measure => have := HK1.1; omega
  case rel => exact ⟨(wrap64 (x1_1 + 1)), sr_, H', ⟨om_ HK1.1⟩, ⟨bl_ HB.1⟩⟩
mutual
def aM.l0 : Nat → ByteArray → Int → Option (Int)
 | 0, _, _ => none
 | k + 1, x0, x1 => if x1 < (x0.size : Int) then (if 0 ≤ x1 then (if (bt x0 x1) = 32 then (aM.j1 k x0 x1 true) else (if (bt x0 x1) = 9 then (aM.j1 k x0 x1 true) else (if (bt x0 x1) = 10 then (aM.j1 k x0 x1 true) else (aM.j1 k x0 x1 ((bt x0 x1) == 13))))) else (none)) else (some x1)
def aM.j1 : Nat → ByteArray → Int → Bool → Option (Int)
 | 0, _, _, _ => none
 | k + 1, x0, x1, x10 => if x10 = true then (aM.l0 k x0 (wrap64 (x1 + 1))) else (if 0 ≤ x1 then (if x1 < (x0.size : Int) then (if (bt x0 x1) = 35 then (aM.l1 k x0 x1) else (some x1)) else (none)) else (none))
def aM.l1 : Nat → ByteArray → Int → Option (Int)
 | 0, _, _ => none
 | k + 1, x0, x1 => if x1 < (x0.size : Int) then (if 0 ≤ x1 then (if (bt x0 x1) = 10 then (aM.l0 k x0 x1) else (aM.l1 k x0 (wrap64 (x1 + 1)))) else (none)) else (aM.l0 k x0 x1)
end
def aM.f (k : Nat) (a0 : ByteArray) (a1 : Int) : Option (Int) := aM.l0 k a0 a1
theorem aM.calls (k : Nat) (a0 : ByteArray) (a1 : Int) (r : Int) (w : World) (h : aM.f k a0 a1 = some r) :
  Calls Tryz.prog 65 #[.string a0, .int .i64 a1] w fun e w' => e = .returned (.int .i64 r) ∧ aK w w' := by
 have H : (aM.l0 k a0 a1) = some r := h; clear h; have H' := af.mk H; clear H
 go_enter Tryz.func65, Tryz.ntmps65
 go_wp2
 go_loopg [1] k (fun kq v1 w' => ∃ (x1_1 : Int), v1 = .int .i64 x1_1 ∧ af (aM.l0 kq a0 x1_1 = some r) ∧ af (kq ≤ k) ∧ aK w w')
 case atStart => exact ⟨(a1), sr_, H', ⟨Nat.le_refl _⟩, by repeat (first | exact aK.refl _ | apply aK.step)⟩
 case round =>
  clear H'; obtain ⟨x1_1, rfl, HA, HK1, ⟨m1, rfl⟩⟩ := hrel; obtain _ | k1 := gk
  · exact absurd HA.1 (by simp [aM.l0])
  have H := HA.1; clear HA; simp only [aM.l0] at H; replace H := (sd_ H).symm; obtain ⟨c3b0, H⟩ | ⟨c3b0, H⟩ := H
  ·
   obtain rfl := Option.some.inj H
   go_wp2
   go_ret
   exact ⟨by first | rfl | (simp; done) | (simp [*]; done) | (simp <;> rfl), by repeat (first | exact aK.refl _ | apply aK.step)⟩
  have HC4 := af.mk H; clear H
  go_upto_region 3 with (fail)
  go_cut [10] (fun v10 wc => ∃ (kq : Nat) (x10_3 : Bool), v10 = .bool x10_3 ∧ af (aM.j1 kq a0 x1_1 x10_3 = some r) ∧ af (kq ≤ k1) ∧ aK w wc)
  case first =>
   have H := HC4.1; clear HC4; replace H := gd_ H; obtain ⟨c5b0, H⟩ := H
   (first | rw [c5b0] | (simp only [cz, cK]; rw [c5b0]) | skip)
   replace H := sp_ H; obtain ⟨c7, H⟩ | ⟨c7, H⟩ := H
   ·
    have c7b0 := beq_iff_eq.mpr c7; have c7b1 := bne_eq_false_iff_eq.mpr c7; clear c7; have H' := af.mk H; clear H; have p6 : (0 ≤ (x1_1 : Int)) = True := dT_; have q6 : (x1_1 < (a0.size : Int)) = True := dT_; have hx6 := bS a0 x1_1
    go_wp2
    go_meet
    case rel => exact ⟨_, (true), sr_, H', ⟨ol_ HK1.1⟩, by repeat (first | exact aK.refl _ | apply aK.step)⟩
   have c7b0 := beq_eq_false_iff_ne.mpr c7; have c7b1 := bne_iff_ne.mpr c7; replace H := sp_ H; obtain ⟨c9, H⟩ | ⟨c9, H⟩ := H
   ·
    have c9b0 := beq_iff_eq.mpr c9; have c9b1 := bne_eq_false_iff_eq.mpr c9; clear c9; have H' := af.mk H; clear H; have p6 : (0 ≤ (x1_1 : Int)) = True := dT_; have q6 : (x1_1 < (a0.size : Int)) = True := dT_; have hx6 := bS a0 x1_1; have p8 : (0 ≤ (x1_1 : Int)) = True := dT_; have q8 : (x1_1 < (a0.size : Int)) = True := dT_; have hx8 := bS a0 x1_1
    go_wp2
    go_meet
    case rel => exact ⟨_, (true), sr_, H', ⟨ol_ HK1.1⟩, by repeat (first | exact aK.refl _ | apply aK.step)⟩
   have c9b0 := beq_eq_false_iff_ne.mpr c9; have c9b1 := bne_iff_ne.mpr c9; replace H := sp_ H; obtain ⟨c11, H⟩ | ⟨c11, H⟩ := H
   ·
    have c11b0 := beq_iff_eq.mpr c11; have c11b1 := bne_eq_false_iff_eq.mpr c11; clear c11; have H' := af.mk H; clear H; have p6 : (0 ≤ (x1_1 : Int)) = True := dT_; have q6 : (x1_1 < (a0.size : Int)) = True := dT_; have hx6 := bS a0 x1_1; have p8 : (0 ≤ (x1_1 : Int)) = True := dT_; have q8 : (x1_1 < (a0.size : Int)) = True := dT_; have hx8 := bS a0 x1_1; have p10 : (0 ≤ (x1_1 : Int)) = True := dT_; have q10 : (x1_1 < (a0.size : Int)) = True := dT_; have hx10 := bS a0 x1_1
    go_wp2
    go_meet
    case rel => exact ⟨_, (true), sr_, H', ⟨ol_ HK1.1⟩, by repeat (first | exact aK.refl _ | apply aK.step)⟩
   have c11b0 := beq_eq_false_iff_ne.mpr c11; have c11b1 := bne_iff_ne.mpr c11; have H' := af.mk H; clear H; have p6 : (0 ≤ (x1_1 : Int)) = True := dT_; have q6 : (x1_1 < (a0.size : Int)) = True := dT_; have hx6 := bS a0 x1_1; have p8 : (0 ≤ (x1_1 : Int)) = True := dT_; have q8 : (x1_1 < (a0.size : Int)) = True := dT_; have hx8 := bS a0 x1_1; have p10 : (0 ≤ (x1_1 : Int)) = True := dT_; have q10 : (x1_1 < (a0.size : Int)) = True := dT_; have hx10 := bS a0 x1_1; have p12 : (0 ≤ (x1_1 : Int)) = True := dT_; have q12 : (x1_1 < (a0.size : Int)) = True := dT_; have hx12 := bS a0 x1_1
   go_wp2
   go_meet
   case rel => exact ⟨_, (((bt a0 x1_1) == 13)), sr_, H', ⟨ol_ HK1.1⟩, by repeat (first | exact aK.refl _ | apply aK.step)⟩
  case rest =>
   clear HC4; (try clear c3); (try clear c3b0); obtain ⟨kq, x10_3, rfl, HA, HJ3, ⟨mc3, rfl⟩⟩ := hcut
   cases kq with
   | zero => exact absurd HA.1 (by simp [aM.j1])
   | succ kj3 =>
    have H := HA.1; clear HA; simp only [aM.j1] at H; replace H := sb_ H; obtain ⟨rfl, H⟩ | ⟨rfl, H⟩ := H
    ·
     have H' := af.mk H; clear H
     go_wp2
     go_roundg kj3
     case measure => have := HK1.1; have := HJ3.1; omega
     case rel => exact ⟨(wrap64 (x1_1 + 1)), sr_, H', ⟨by have := HK1.1; have := HJ3.1; omega⟩, by repeat (first | exact aK.refl _ | apply aK.step)⟩
    replace H := gd_ H; obtain ⟨c14b0, H⟩ := H; replace H := gd_ H; obtain ⟨c15b0, H⟩ := H; replace H := (sp_ H).symm; obtain ⟨c17, H⟩ | ⟨c17, H⟩ := H
    ·
     have c17b0 := beq_eq_false_iff_ne.mpr c17; have c17b1 := bne_iff_ne.mpr c17; obtain rfl := Option.some.inj H; have p16 : (0 ≤ (x1_1 : Int)) = True := dT_; have q16 : (x1_1 < (a0.size : Int)) = True := dT_; have hx16 := bS a0 x1_1
     go_wp2
     go_ret
     exact ⟨by first | rfl | (simp; done) | (simp [*]; done) | (simp <;> rfl), by repeat (first | exact aK.refl _ | apply aK.step)⟩
    have c17b0 := beq_iff_eq.mpr c17; have c17b1 := bne_eq_false_iff_eq.mpr c17; clear c17; have H' := af.mk H; clear H; have p16 : (0 ≤ (x1_1 : Int)) = True := dT_; have q16 : (x1_1 < (a0.size : Int)) = True := dT_; have hx16 := bS a0 x1_1
    go_wp2
    go_loopg [1] kj3 (fun kq v1 w' => ∃ (x1_3 : Int), v1 = .int .i64 x1_3 ∧ af (aM.l1 kq a0 x1_3 = some r) ∧ af (kq ≤ kj3) ∧ aK w w')
    case atStart => exact ⟨(x1_1), sr_, H', ⟨Nat.le_refl _⟩, by repeat (first | exact aK.refl _ | apply aK.step)⟩
    case round =>
     clear H'; (try clear c3); (try clear c3b0); (try clear c13); (try clear c14); (try clear c14b0); (try clear c15); (try clear c15b0); (try clear p16); (try clear q16); (try clear hx16); (try clear c17); (try clear c17b0); (try clear c17b1); (try clear p16); (try clear q16); obtain ⟨x1_3, rfl, HA, HK3, ⟨m3, rfl⟩⟩ := hrel; obtain _ | k3 := gk
     · exact absurd HA.1 (by simp [aM.l1])
     have H := HA.1; clear HA; simp only [aM.l1] at H; replace H := (sd_ H).symm; obtain ⟨c18b0, H⟩ | ⟨c18b0, H⟩ := H
     ·
      have H' := af.mk H; clear H
      go_wp2
      go_roundg k3
      case measure => have := HK1.1; have := HJ3.1; have := HK3.1; omega
      case rel => exact ⟨(x1_3), sr_, H', ⟨by have := HK1.1; have := HJ3.1; have := HK3.1; omega⟩, by repeat (first | exact aK.refl _ | apply aK.step)⟩
     replace H := gd_ H; obtain ⟨c19b0, H⟩ := H; replace H := (sp_ H).symm; obtain ⟨c21, H⟩ | ⟨c21, H⟩ := H
     ·
      have c21b0 := beq_eq_false_iff_ne.mpr c21; have c21b1 := bne_iff_ne.mpr c21; have H' := af.mk H; clear H; have p20 : (0 ≤ (x1_3 : Int)) = True := dT_; have q20 : (x1_3 < (a0.size : Int)) = True := dT_; have hx20 := bS a0 x1_3
      go_wp2
      go_roundg k3
      case measure => have := HK1.1; have := HJ3.1; have := HK3.1; omega
      case rel => exact ⟨(wrap64 (x1_3 + 1)), sr_, H', ⟨by have := HK1.1; have := HJ3.1; have := HK3.1; omega⟩, by repeat (first | exact aK.refl _ | apply aK.step)⟩
     have c21b0 := beq_iff_eq.mpr c21; have c21b1 := bne_eq_false_iff_eq.mpr c21; clear c21; have H' := af.mk H; clear H; have p20 : (0 ≤ (x1_3 : Int)) = True := dT_; have q20 : (x1_3 < (a0.size : Int)) = True := dT_; have hx20 := bS a0 x1_3
     go_wp2
     go_roundg k3
     case measure => have := HK1.1; have := HJ3.1; have := HK3.1; omega
     case rel => exact ⟨(x1_3), sr_, H', ⟨by have := HK1.1; have := HJ3.1; have := HK3.1; omega⟩, by repeat (first | exact aK.refl _ | apply aK.step)⟩
end Go.Proofs.YtkifdadhojbohaaGreatDoor.Pr
namespace Go.Proofs.YtkifdadhojbohaaGreatDoor.Pu
open Go.RowKit Go.Proofs.YtkifdadhojbohaaGreatDoor Go.Proofs.YtkifdadhojbohaaGreatDoor.Pr Go.Proofs.YtkifdadhojbohaaGreatDoorW.PrintWords Go.Proofs.YtkifdadhojbohaaGreatDoorW.PrintLast
theorem Ev.succ {α : Type} {g : Nat → Option α} {r : α} (h : Ev (fun k => g (k + 1)) r) : Ev g r := Ev.step (fun _ => rfl) h
theorem Ev.ifp {α : Type} {c : Prop} [Decidable c] {f g : Nat → Option α} {r : α} (hc : c) (h : Ev f r) : Ev (fun k => if c then f k else g k) r := by
  simpa only [if_pos hc] using h
theorem Ev.ifn {α : Type} {c : Prop} [Decidable c] {f g : Nat → Option α} {r : α} (hc : ¬ c) (h : Ev g r) : Ev (fun k => if c then f k else g k) r := by
  simpa only [if_neg hc] using h
theorem Ev.val {α β : Type} {x : Option α} {a : α} {f : Nat → α → Option β} {r : β} (hx : x = some a) (h : Ev (fun k => f k a) r) : Ev (fun k => x.bind (f k)) r := by
  subst hx; exact h
theorem Ev.ret {α : Type} {r s : α} (h : r = s) : Ev (fun _ => some r) s := by subst h; exact Ev.now r
theorem Ev.unique {α : Type} {g : Nat → Option α} {r s : α} (h : Ev g r) (k : Ev g s) : r = s := by
  obtain ⟨K, hK⟩ := h
  obtain ⟨L, hL⟩ := k
  have a := hK (max K L) (by omega)
  have b := hL (max K L) (by omega)
  rw [a] at b
  exact Option.some.inj b
theorem gq {i : Int} (h0 : -9223372036854775808 ≤ i) (h1 : i < 9223372036854775808) : wrap64 i = i := by unfold wrap64; omega
def lst (s : ByteArray) : List UInt8 := s.data.toList
theorem aI (s : ByteArray) : (lst s).length = s.size := rfl
theorem dx (s : ByteArray) : s.toList = lst s := ByteArray.toList_eq s
theorem ic {s t : ByteArray} (h : lst s = lst t) : s = t := by
  cases s; cases t
  simp only [lst, Array.toList_inj] at h
  subst h; rfl
def str (l : List UInt8) : ByteArray := ⟨l.toArray⟩
@[simp] theorem gM (l : List UInt8) : lst (str l) = l := rfl
@[simp] theorem str_lst (s : ByteArray) : str (lst s) = s := ic rfl
@[simp] theorem dY (l : List UInt8) : (str l).size = l.length := by simp [str, ByteArray.size]
theorem iK (s t : ByteArray) : lst (s ++ t) = lst s ++ lst t := by simp [lst]
theorem eO (s : ByteArray) (a b : Nat) : lst (s.extract a b) = ((lst s).take b).drop a := by
  rw [lst, Lib.extract_data, List.drop_take]
  rfl
theorem gp {s : ByteArray} {i : Nat} {c : UInt8} {l : List UInt8} (h : (lst s).drop i = c :: l) : i < s.size ∧ bt s i = (c.toNat : Int) ∧ (lst s).drop (i + 1) = l := by
  have hi : i < s.size := by
    rw [← aI]
    apply Classical.byContradiction
    intro hn
    rw [List.drop_eq_nil_of_le (by omega)] at h
    cases h
  have hg : (lst s)[i]? = some c := by
    have := congrArg (·[0]?) h
    simpa using this
  refine ⟨hi, ?_, ?_⟩
  · unfold bt
    rw [dif_pos (by simpa using hi)]
    have : s[i]'hi = c := by
      have h2 := List.getElem?_eq_some_iff.1 hg
      exact h2.2
    simp only [Int.toNat_natCast]
    rw [this]
  · have := congrArg List.tail h
    rwa [List.tail_drop] at this
theorem at_nil {s : ByteArray} {i : Nat} (hi : i ≤ s.size) (h : (lst s).drop i = []) : i = s.size := by
  rw [List.drop_eq_nil_iff, aI] at h
  omega
theorem jR : aR.f = some (.agg (fV 256)) := rfl
theorem jT (c : UInt8) : aR.at_ (c.toNat : Int) = (kindOf c.toNat : Int) := by simp [aR.at_]
theorem jS (c : UInt8) : (c.toNat : Int) < 256 := by have := c.toNat_lt; omega
def dw : Bool → List UInt8 → List UInt8
  | _, [] => []
  | true, c :: l => if c.toNat = 10 then dw false l else dw true l
  | false, c :: l => if c.toNat = 35 then dw true l else if kindOf c.toNat = 1 then dw false l else c :: l
theorem skip_prog (s : ByteArray) (hs : s.size ≤ 1000000) : ∀ (d : Nat) (i : Nat) (l : List UInt8), i ≤ s.size → s.size - i = d → (lst s).drop i = l →
    Ev (fun k => bv.l0 k s i) (s.size - (dw false l).length) ∧ Ev (fun k => bv.l1 k s i) (s.size - (dw true l).length) := by
  intro d
  induction d with
  | zero =>
    intro i l hi hd hl
    obtain rfl : i = s.size := by omega
    obtain rfl : l = [] := by rw [← hl]; exact List.drop_eq_nil_of_le (by rw [aI]; omega)
    have h0 : Ev (fun k => bv.l0 k s (s.size : Int)) (s.size - (dw false []).length) := by
      refine Ev.succ ?_
      simp only [bv.l0]
      refine Ev.ifn (by omega) (Ev.ret (by simp [dw]))
    refine ⟨h0, ?_⟩
    refine Ev.succ ?_
    simp only [bv.l1]
    exact Ev.ifn (by omega) h0
  | succ d ih =>
    intro i l hi hd hl
    cases l with
    | nil => exact absurd (at_nil hi hl) (by omega)
    | cons c l =>
      obtain ⟨h1, h2, h3⟩ := gp hl
      obtain ⟨ihf, iht⟩ := ih (i + 1) l (by omega) (by omega) h3
      have hw : wrap64 ((i : Int) + 1) = ((i + 1 : Nat) : Int) := by rw [gq (by omega) (by omega)]; rfl
      have hf : Ev (fun k => bv.l1 k s i) (s.size - (dw true (c :: l)).length) → Ev (fun k => bv.l0 k s i) (s.size - (dw false (c :: l)).length) := by
        intro ht
        refine Ev.succ ?_
        simp only [bv.l0]
        rw [h2]
        refine Ev.ifp (by omega) (Ev.ifp (by omega) ?_)
        by_cases h35 : c.toNat = 35
        · refine Ev.ifp (by omega) ?_
          unfold dw
          rw [if_pos h35]
          unfold dw at ht
          rw [if_neg (by omega)] at ht
          exact ht
        · refine Ev.ifn (by omega) (Ev.val jR (Ev.ifp (by omega) (Ev.ifp (jS c) ?_)))
          rw [jT]
          unfold dw
          rw [if_neg h35]
          by_cases hk : kindOf c.toNat = 1
          · refine Ev.ifp (by omega) ?_
            rw [hw, if_pos hk]; exact ihf
          · refine Ev.ifn (by omega) (Ev.ret ?_)
            rw [if_neg hk, ← hl, List.length_drop, aI]; omega
      have ht : Ev (fun k => bv.l1 k s i) (s.size - (dw true (c :: l)).length) := by
        by_cases h10 : c.toNat = 10
        · refine Ev.succ ?_
          simp only [bv.l1]
          rw [h2]
          refine Ev.ifp (by omega) (Ev.ifp (by omega) (Ev.ifp (by omega) ?_))
          refine Ev.succ ?_
          simp only [bv.l0]
          rw [h2]
          refine Ev.ifp (by omega) (Ev.ifp (by omega) (Ev.ifn (by omega) (Ev.val jR (Ev.ifp (by omega) (Ev.ifp (jS c) ?_)))))
          rw [jT]
          unfold dw
          rw [if_pos h10]
          refine Ev.ifp (by rw [h10]; decide) ?_
          rw [hw]; exact ihf
        · refine Ev.succ ?_
          simp only [bv.l1]
          rw [h2]
          refine Ev.ifp (by omega) (Ev.ifp (by omega) (Ev.ifn (by omega) ?_))
          unfold dw
          rw [if_neg h10, hw]; exact iht
      exact ⟨hf ht, ht⟩
theorem skip_f (s : ByteArray) (hs : s.size ≤ 1000000) (i : Nat) (hi : i ≤ s.size) : Ev (fun k => bv.f k s i) (s.size - (dw false ((lst s).drop i)).length) := (skip_prog s hs _ i _ hi rfl rfl).1
end Go.Proofs.YtkifdadhojbohaaGreatDoor.Pu
namespace Go.Proofs.YtkifdadhojbohaaGreatDoor.Pr
open Go.Proofs.YtkifdadhojbohaaGreatDoor
open Go.RowKit Go.Proofs.YtkifdadhojbohaaGreatDoorW.PrintWords Go.Proofs.YtkifdadhojbohaaGreatDoorW.PrintLast Go.Proofs.YtkifdadhojbohaaGreatDoorW.PrintMore
attribute [local go_sem] fU fQ gL gK eT eQ fT fP
def dE.f (a0 : Int) : Option (Bool) := (aR.f).bind fun t102 => (if 0 ≤ a0 then (if a0 < 256 then (if (aR.at_ a0) = 2 then (some true) else ((aR.f).bind fun t103 => (if (aR.at_ a0) = 3 then (some true) else ((aR.f).bind fun t104 => (some ((aR.at_ a0) == 4)))))) else (none)) else (none))
theorem dE.calls (a0 : Int) (r : Bool) (w : World) (h : dE.f a0 = some r) :
  Calls Tryz.prog 86 #[.int .u8 a0] w fun e w' => e = .returned (.bool r) ∧ Below w.heap.size w w' := by
 have HB := af.mk (Below.refl w.heap.size w); have H : ((aR.f).bind fun t102 => (if 0 ≤ a0 then (if a0 < 256 then (if (aR.at_ a0) = 2 then (some true) else ((aR.f).bind fun t103 => (if (aR.at_ a0) = 3 then (some true) else ((aR.f).bind fun t104 => (some ((aR.at_ a0) == 4)))))) else (none)) else (none))) = some r := h; clear h; replace H := bn_ H; obtain ⟨t102, A2, H⟩ := H; (try dsimp only at H); replace H := gd_ H; obtain ⟨c3b0, H⟩ := H; replace H := gd_ H; obtain ⟨c4b0, H⟩ := H; replace H := sp_ H; obtain ⟨c6, H⟩ | ⟨c6, H⟩ := H
 ·
  have c6b0 := beq_iff_eq.mpr c6; have c6b1 := bne_eq_false_iff_eq.mpr c6; clear c6; obtain rfl := Option.some.inj H
  go_enter Tryz.func86, Tryz.ntmps86
  go_wp2_with (first | ((with_reducible refine aj (f := 72) rfl ?_); refine gk_ (some 3) Tryz.func72 (aR.calls  t102 _ A2.1) ?_; rintro e w7 ⟨rfl, hb⟩; refine ⟨_, rfl, ?_⟩; refine gD (ah (bl_ HB.1) hb) ?_; clear hb HB; intro HB; have p5 : 0 ≤ (a0 : Int) := dt_; have q5 : (a0 : Int) < 256 := dt_; have hx5 := aR.at_run A2.1 a0 p5 q5; replace p5 := eq_true p5; replace q5 := eq_true q5))
  go_ret
  exact ⟨er_, bl_ HB.1⟩
 have c6b0 := beq_eq_false_iff_ne.mpr c6; have c6b1 := bne_iff_ne.mpr c6; replace H := bn_ H; obtain ⟨t103, A8, H⟩ := H; (try dsimp only at H); replace H := sp_ H; obtain ⟨c10, H⟩ | ⟨c10, H⟩ := H
 ·
  have c10b0 := beq_iff_eq.mpr c10; have c10b1 := bne_eq_false_iff_eq.mpr c10; clear c10; obtain rfl := Option.some.inj H
  go_enter Tryz.func86, Tryz.ntmps86
  go_wp2_with (first | ((with_reducible refine aj (f := 72) rfl ?_); refine gk_ (some 3) Tryz.func72 (aR.calls  t102 _ A2.1) ?_; rintro e w11 ⟨rfl, hb⟩; refine ⟨_, rfl, ?_⟩; refine gD (ah (bl_ HB.1) hb) ?_; clear hb HB; intro HB; have p5 : 0 ≤ (a0 : Int) := dt_; have q5 : (a0 : Int) < 256 := dt_; have hx5 := aR.at_run A2.1 a0 p5 q5; replace p5 := eq_true p5; replace q5 := eq_true q5) | (go_at_call 72; (with_reducible refine (aR.calls  t103 _ A8.1).mono ?_); rintro e w12 ⟨rfl, hb⟩; refine gD (ah (bl_ HB.1) hb) ?_; clear HB; intro HB; (try clear hb); (try clear hb2); (try clear hk); (try clear hi); have p9 : 0 ≤ (a0 : Int) := dt_; have q9 : (a0 : Int) < 256 := dt_; have hx9 := aR.at_run A8.1 a0 p9 q9; replace p9 := eq_true p9; replace q9 := eq_true q9))
  go_ret
  exact ⟨er_, bl_ HB.1⟩
 have c10b0 := beq_eq_false_iff_ne.mpr c10; have c10b1 := bne_iff_ne.mpr c10; replace H := bn_ H; obtain ⟨t104, A13, H⟩ := H; (try dsimp only at H); obtain rfl := Option.some.inj H
 go_enter Tryz.func86, Tryz.ntmps86
 go_wp2_with (first | ((with_reducible refine aj (f := 72) rfl ?_); refine gk_ (some 3) Tryz.func72 (aR.calls  t102 _ A2.1) ?_; rintro e w15 ⟨rfl, hb⟩; refine ⟨_, rfl, ?_⟩; refine gD (ah (bl_ HB.1) hb) ?_; clear hb HB; intro HB; have p5 : 0 ≤ (a0 : Int) := dt_; have q5 : (a0 : Int) < 256 := dt_; have hx5 := aR.at_run A2.1 a0 p5 q5; replace p5 := eq_true p5; replace q5 := eq_true q5) | (go_at_call 72; (with_reducible refine (aR.calls  t103 _ A8.1).mono ?_); rintro e w16 ⟨rfl, hb⟩; refine gD (ah (bl_ HB.1) hb) ?_; clear HB; intro HB; (try clear hb); (try clear hb2); (try clear hk); (try clear hi); have p9 : 0 ≤ (a0 : Int) := dt_; have q9 : (a0 : Int) < 256 := dt_; have hx9 := aR.at_run A8.1 a0 p9 q9; replace p9 := eq_true p9; replace q9 := eq_true q9) | (go_at_call 72; (with_reducible refine (aR.calls  t104 _ A13.1).mono ?_); rintro e w17 ⟨rfl, hb⟩; refine gD (ah (bl_ HB.1) hb) ?_; clear HB; intro HB; (try clear hb); (try clear hb2); (try clear hk); (try clear hi); have p14 : 0 ≤ (a0 : Int) := dt_; have q14 : (a0 : Int) < 256 := dt_; have hx14 := aR.at_run A13.1 a0 p14 q14; replace p14 := eq_true p14; replace q14 := eq_true q14))
 go_ret
 exact ⟨er_, bl_ HB.1⟩
def bG.l0 : Nat → ByteArray → Bool → Int → Int → Option (Int)
 | 0, _, _, _, _ => none
 | k + 1, x0, x3, x6, x7 => if x7 < x6 then (if 0 ≤ x7 then (if x7 < (x0.size : Int) then (if (bt x0 x7) = 46 then (some 2) else (if x3 = true then (bG.l0 k x0 true x6 (wrap64 (x7 + 1))) else ((aR.f).bind fun t105 => (if 0 ≤ (bt x0 x7) then (if (bt x0 x7) < 256 then (if (aR.at_ (bt x0 x7)) = 2 then (bG.l0 k x0 ((bt x0 x7) != 95) x6 (wrap64 (x7 + 1))) else (bG.l0 k x0 false x6 (wrap64 (x7 + 1)))) else (none)) else (none))))) else (none)) else (none)) else (if x3 = true then (if (x0.size : Int) > 32 then (some 6) else (some 0)) else (some 2))
def bG.f (k : Nat) (a0 : ByteArray) : Option (Int) := bG.l0 k a0 false (a0.size : Int) 0
theorem bG.mono_l : ∀ k, (∀ y0 y1 y2 y3, LeO (bG.l0 k y0 y1 y2 y3) (bG.l0 (k + 1) y0 y1 y2 y3))
 | 0 => fun _ _ _ _ r h => by simp [bG.l0] at h
 | k + 1 => by
  have ih0 := bG.mono_l k
  ·
   intro y0 y1 y2 y3
   unfold bG.l0
   repeat' first
   | (with_reducible exact LeO.refl _)
   | exact ih0 _ _ _ _
   | exact LeO.none _
   | refine LeO.ite ?_ ?_
   | refine LeO.bind ?_ (fun _ => ?_)
theorem bG.mono : ∀ a0 k, LeO (bG.f k a0) (bG.f (k + 1) a0) := by
 intro a0 k
 have ih0 := bG.mono_l k
 unfold bG.f
 repeat' first
   | (with_reducible exact LeO.refl _)
   | exact ih0 _ _ _ _
   | exact LeO.none _
   | refine LeO.ite ?_ ?_
   | refine LeO.bind ?_ (fun _ => ?_)
def bG.T7 : Bool × List (List Nat × List Nat) := (true, [([], []), ([0], [0]), ([1, 1], [1]), ([1], [1]), ([1], [1]), ([3, 4, 1], [1, 3, 4]), ([2, 5, 1], [1, 2, 5]), ([6, 1], [1, 6]), ([7, 2, 1], [1, 7]), ([8], [8]), ([8], [8]), ([9, 10, 8], [8, 9, 10]), ([11, 8], [8, 11]), ([8, 12, 1], [1, 8, 12]), ([1, 13], [1, 13]), ([14, 8, 0, 1, 2, 3, 4, 5, 6, 7, 8, 9, 10, 11, 12, 13, 14], [0, 14])])
def bG.B7 : List Nat := [0, 1, 3, 3, 3, 27, 63, 127, 255, 511, 511, 2047, 4095, 8191, 16383, 32767]
theorem bG.tab7 : rtab .any (opsOf Tryz.f89 7) = bG.T7 := by kernel_rfl
theorem bG.bits7 : fJ bG.T7.2 bG.B7 = true := by kernel_rfl
theorem bG.calls (k : Nat) (a0 : ByteArray) (r : Int) (w : World) (h : bG.f k a0 = some r) :
  Calls Tryz.prog 89 #[.string a0] w fun e w' => e = .returned (.int .i64 r) ∧ Below w.heap.size w w' := by
 have HB := af.mk (Below.refl w.heap.size w); have H : (bG.l0 k a0 false (a0.size : Int) 0) = some r := h; clear h; have H' := af.mk H; clear H
 go_enter Tryz.func89, Tryz.ntmps89
 go_wp2
 go_loopg [3, 7] k (fun kq v3 v7 w' => ∃ (x3_1 : Bool) (x7_1 : Int), v3 = .bool x3_1 ∧ v7 = .int .i64 x7_1 ∧ af (bG.l0 kq a0 x3_1 (a0.size : Int) x7_1 = some r) ∧ af (kq ≤ k) ∧ af (Below w.heap.size w w'))
 case atStart => exact ⟨(false), (0), sr_, sr_, H', ⟨Nat.le_refl _⟩, ⟨bl_ HB.1⟩⟩
 case round =>
  clear H'; obtain ⟨x3_1, x7_1, rfl, rfl, HA, HK1, HB⟩ := hrel; obtain _ | k1 := gk
  · exact absurd HA.1 (by simp [bG.l0])
  have H := HA.1; clear HA; simp only [bG.l0] at H; replace H := (sd_ H).symm; obtain ⟨c2b0, H⟩ | ⟨c2b0, H⟩ := H
  ·
   replace H := (sb_ H).symm; obtain ⟨rfl, H⟩ | ⟨rfl, H⟩ := H
   ·
    obtain rfl := Option.some.inj H
    go_wp2
    go_ret
    exact ⟨er_, bl_ HB.1⟩
   replace H := sp_ H; obtain ⟨c21, H⟩ | ⟨c21, H⟩ := H
   ·
    have c21b0 := decide_eq_true c21; have c21b1 : decide (32 < a0.size) = true := decide_eq_true (by omega); clear c21; obtain rfl := Option.some.inj H
    go_wp2
    go_ret
    exact ⟨er_, bl_ HB.1⟩
   have c21b0 := decide_eq_false c21; have c21b1 : decide (32 < a0.size) = false := decide_eq_false (by omega); clear c21; obtain rfl := Option.some.inj H
   go_wp2
   go_ret
   exact ⟨er_, bl_ HB.1⟩
  replace H := gd_ H; obtain ⟨c3b0, H⟩ := H; replace H := gd_ H; obtain ⟨c4b0, H⟩ := H; replace H := sp_ H; obtain ⟨c6, H⟩ | ⟨c6, H⟩ := H
  ·
   have c6b0 := beq_iff_eq.mpr c6; have c6b1 := bne_eq_false_iff_eq.mpr c6; clear c6; obtain rfl := Option.some.inj H; have p5 : (0 ≤ (x7_1 : Int)) = True := dT_; have q5 : (x7_1 < (a0.size : Int)) = True := dT_; have hx5 := bS a0 x7_1
   go_wp2
   go_ret
   exact ⟨er_, bl_ HB.1⟩
  have c6b0 := beq_eq_false_iff_ne.mpr c6; have c6b1 := bne_iff_ne.mpr c6; replace H := sb_ H; obtain ⟨rfl, H⟩ | ⟨rfl, H⟩ := H
  ·
   have H' := af.mk H; clear H; have p5 : (0 ≤ (x7_1 : Int)) = True := dT_; have q5 : (x7_1 < (a0.size : Int)) = True := dT_; have hx5 := bS a0 x7_1
   try go_wp2
   refine gD (bD HB.1) ?_; clear HB; intro HB; refine dX (n := 16) (S := fun w' => True) (ds := []) (bm_ 16 0) (by kernel_rfl) rfl (by kernel_rfl) trivial (fun hHeld => ?_); refine cZ bG.tab7 bG.bits7 (fun HT_ HW_ => ?_); generalize wr.drew = w8 at HB hHeld ⊢; refine pt_ HT_.1 (i := 0) (N := some 14) (bm_ 16 1) ?_; refine pt_ HT_.1 (i := 1) (N := some 15) (bm_ 16 3) ?_; refine iJ (i := 2) (N := some 16) (v := undef) (a' := ?_) (bm_ 16 7) rfl rfl (gF HT_.1 (by kernel_rfl)) (fun _ _ _ h => h) (Or.inr ⟨by rfl, rfl⟩) ?_ ?_; rotate_left
   ·
    simp only [Act.put, List.setIfInBounds_toArray, List.set_cons_zero, List.set_cons_succ, cz, cK]
    rfl
   refine iJ (i := 3) (N := some 17) (v := undef) (a' := ?_) (bm_ 16 15) rfl rfl (gF HT_.1 (by kernel_rfl)) (fun _ _ _ h => h) (Or.inr ⟨by rfl, rfl⟩) ?_ ?_; rotate_left
   ·
    simp only [Act.put, List.setIfInBounds_toArray, List.set_cons_zero, List.set_cons_succ, cz, cK]
    rfl
   refine iJ (i := 4) (N := some 18) (v := undef) (a' := ?_) (bm_ 16 31) rfl rfl (gF HT_.1 (by kernel_rfl)) (fun _ _ _ h => h) (Or.inr ⟨by rfl, rfl⟩) ?_ ?_; rotate_left
   ·
    simp only [Act.put, List.setIfInBounds_toArray, List.set_cons_zero, List.set_cons_succ, cz, cK]
    rfl
   refine iJ (i := 5) (N := some 19) (v := undef) (a' := ?_) (bm_ 16 63) rfl rfl (gF HT_.1 (by kernel_rfl)) (fun _ _ _ h => h) (Or.inr ⟨by rfl, rfl⟩) ?_ ?_; rotate_left
   ·
    simp only [Act.put, List.setIfInBounds_toArray, List.set_cons_zero, List.set_cons_succ, cz, cK]
    rfl
   refine iJ (i := 6) (N := some 20) (v := undef) (a' := ?_) (bm_ 16 127) rfl rfl (gF HT_.1 (by kernel_rfl)) (fun _ _ _ h => h) (Or.inr ⟨by rfl, rfl⟩) ?_ ?_; rotate_left
   ·
    simp only [Act.put, List.setIfInBounds_toArray, List.set_cons_zero, List.set_cons_succ, cz, cK]
    rfl
   refine iJ (i := 7) (N := some 21) (v := undef) (a' := ?_) (bm_ 16 255) rfl rfl (gF HT_.1 (by kernel_rfl)) (fun _ _ _ h => h) (Or.inr ⟨by rfl, rfl⟩) ?_ ?_; rotate_left
   ·
    simp only [Act.put, List.setIfInBounds_toArray, List.set_cons_zero, List.set_cons_succ, cz, cK]
    rfl
   refine iJ (i := 8) (N := some 22) (v := undef) (a' := ?_) (bm_ 16 511) rfl rfl (gF HT_.1 (by kernel_rfl)) (fun _ _ _ h => h) (Or.inr ⟨by rfl, rfl⟩) ?_ ?_; rotate_left
   ·
    simp only [Act.put, List.setIfInBounds_toArray, List.set_cons_zero, List.set_cons_succ, cz, cK]
    rfl
   refine iJ (i := 9) (N := some 23) (v := undef) (a' := ?_) (bm_ 16 1023) rfl rfl (gF HT_.1 (by kernel_rfl)) (fun _ _ _ h => h) (Or.inr ⟨by rfl, rfl⟩) ?_ ?_; rotate_left
   ·
    simp only [Act.put, List.setIfInBounds_toArray, List.set_cons_zero, List.set_cons_succ, cz, cK]
    rfl
   refine iJ (i := 10) (N := some 24) (v := undef) (a' := ?_) (bm_ 16 2047) rfl rfl (gF HT_.1 (by kernel_rfl)) (fun _ _ _ h => h) (Or.inr ⟨by rfl, rfl⟩) ?_ ?_; rotate_left
   ·
    simp only [Act.put, List.setIfInBounds_toArray, List.set_cons_zero, List.set_cons_succ, cz, cK]
    rfl
   refine iJ (i := 11) (N := some 25) (v := undef) (a' := ?_) (bm_ 16 4095) rfl rfl (gF HT_.1 (by kernel_rfl)) (fun _ _ _ h => h) (Or.inr ⟨by rfl, rfl⟩) ?_ ?_; rotate_left
   ·
    simp only [Act.put, List.setIfInBounds_toArray, List.set_cons_zero, List.set_cons_succ, cz, cK]
    rfl
   refine iJ (i := 12) (N := some 26) (v := undef) (a' := ?_) (bm_ 16 8191) rfl rfl (gF HT_.1 (by kernel_rfl)) (fun _ _ _ h => h) (Or.inr ⟨by rfl, rfl⟩) ?_ ?_; rotate_left
   ·
    simp only [Act.put, List.setIfInBounds_toArray, List.set_cons_zero, List.set_cons_succ, cz, cK]
    rfl
   refine iJ (i := 13) (N := some 27) (v := undef) (a' := ?_) (bm_ 16 16383) rfl rfl (gF HT_.1 (by kernel_rfl)) (fun _ _ _ h => h) (Or.inr ⟨by rfl, rfl⟩) ?_ ?_; rotate_left
   ·
    simp only [Act.put, List.setIfInBounds_toArray, List.set_cons_zero, List.set_cons_succ, cz, cK]
    rfl
   refine pt_ HT_.1 (i := 14) (N := some 28) (bm_ 16 32767) ?_; refine pt_ HT_.1 (i := 15) (N := some 3) (bm_ 16 65535) ?_; refine gB (eB HT_.1 (by kernel_rfl)) ?_
   try go_wp2
   go_roundg k1
   case measure => have := HK1.1; omega
   case rel => exact ⟨(true), (wrap64 (x7_1 + 1)), sr_, sr_, H', ⟨om_ HK1.1⟩, ⟨bl_ HB.1⟩⟩
  replace H := bn_ H; obtain ⟨t105, A9, H⟩ := H; (try dsimp only at H); replace H := gd_ H; obtain ⟨c11b0, H⟩ := H; replace H := gd_ H; obtain ⟨c12b0, H⟩ := H; replace H := sp_ H; obtain ⟨c14, H⟩ | ⟨c14, H⟩ := H
  ·
   have c14b0 := beq_iff_eq.mpr c14; have c14b1 := bne_eq_false_iff_eq.mpr c14; clear c14; have H' := af.mk H; clear H; have p5 : (0 ≤ (x7_1 : Int)) = True := dT_; have q5 : (x7_1 < (a0.size : Int)) = True := dT_; have hx5 := bS a0 x7_1
   try go_wp2
   refine gD (bD HB.1) ?_; clear HB; intro HB; have p10 : (0 ≤ (x7_1 : Int)) = True := dT_; have q10 : (x7_1 < (a0.size : Int)) = True := dT_; have hx10 := bS a0 x7_1; refine dX (n := 16) (S := fun w' => True) (ds := []) (bm_ 16 0) (by kernel_rfl) rfl (by kernel_rfl) trivial (fun hHeld => ?_); refine cZ bG.tab7 bG.bits7 (fun HT_ HW_ => ?_); generalize wr.drew = w16 at HB hHeld ⊢; refine pt_ HT_.1 (i := 0) (N := some 14) (bm_ 16 1) ?_; refine pt_ HT_.1 (i := 1) (N := some 15) (bm_ 16 3) ?_; refine pt_ HT_.1 (i := 3) (N := some 17) (bm_ 16 11) ?_; refine pt_ HT_.1 (i := 4) (N := some 18) (bm_ 16 27) ?_; refine take_ (i := 5) (N := some 19) (v := ?_) (a' := ?_) (bm_ 16 59) rfl rfl (iB HT_.1 HW_.1 (by kernel_rfl)) (fun _ _ _ h => h) (Or.inl ⟨by rfl, ?_⟩) hHeld ?_ ?_; rotate_left
   ·
    intro w' _; go_simp
    with_reducible rfl
   rotate_left
   ·
    simp only [Act.put, List.setIfInBounds_toArray, List.set_cons_zero, List.set_cons_succ, cz, cK]
    rfl
   refine on_ HT_.1 (i := 2) (N := some 16) (bm_ 16 63) (fun K hK => ?_); refine kP Tryz.func72 (by kernel_rfl) rfl #[] (by rfl) rfl rfl ga_ ?_
   with_reducible refine (aR.calls  t105 _ A9.1).mono ?_
   rintro e w17 ⟨rfl, hb⟩; refine ⟨_, rfl, ?_⟩; refine gD (ah (bl_ HB.1) hb) ?_; clear HB; intro HB; (try clear hb); have p13 : 0 ≤ ((bt a0 x7_1) : Int) := dt_; have q13 : ((bt a0 x7_1) : Int) < 256 := dt_; have hx13 := aR.at_run A9.1 (bt a0 x7_1) p13 q13; replace p13 := eq_true p13; replace q13 := eq_true q13; have p15 : (0 ≤ (x7_1 : Int)) = True := dT_; have q15 : (x7_1 < (a0.size : Int)) = True := dT_; have hx15 := bS a0 x7_1; refine hK.out _ _ trivial (fun hHeld => ?_); clear hK K; refine nm_ ?_; refine take_ (i := 6) (N := some 20) (v := ?_) (a' := ?_) (bm_ 16 127) rfl rfl (iB HT_.1 HW_.1 (by kernel_rfl)) (fun _ _ _ h => h) (Or.inl ⟨by rfl, ?_⟩) hHeld ?_ ?_; rotate_left
   ·
    intro w' _; go_simp
    with_reducible rfl
   rotate_left
   ·
    simp only [Act.put, List.setIfInBounds_toArray, List.set_cons_zero, List.set_cons_succ, cz, cK]
    rfl
   refine pt_ HT_.1 (i := 7) (N := some 21) (bm_ 16 255) ?_; refine pt_ HT_.1 (i := 8) (N := some 22) (bm_ 16 511) ?_; refine pt_ HT_.1 (i := 9) (N := some 23) (bm_ 16 1023) ?_; refine pt_ HT_.1 (i := 10) (N := some 24) (bm_ 16 2047) ?_; refine take_ (i := 11) (N := some 25) (v := ?_) (a' := ?_) (bm_ 16 4095) rfl rfl (iB HT_.1 HW_.1 (by kernel_rfl)) (fun _ _ _ h => h) (Or.inl ⟨by rfl, ?_⟩) hHeld ?_ ?_; rotate_left
   ·
    intro w' _; go_simp
    with_reducible rfl
   rotate_left
   ·
    simp only [Act.put, List.setIfInBounds_toArray, List.set_cons_zero, List.set_cons_succ, cz, cK]
    rfl
   refine pt_ HT_.1 (i := 12) (N := some 26) (bm_ 16 8191) ?_; refine pt_ HT_.1 (i := 13) (N := some 27) (bm_ 16 16383) ?_; refine pt_ HT_.1 (i := 14) (N := some 28) (bm_ 16 32767) ?_; refine pt_ HT_.1 (i := 15) (N := some 3) (bm_ 16 65535) ?_; refine gB (eB HT_.1 (by kernel_rfl)) ?_
   try go_wp2
   go_roundg k1
   case measure => have := HK1.1; omega
   case rel => exact ⟨(((bt a0 x7_1) != 95)), (wrap64 (x7_1 + 1)), sr_, sr_, H', ⟨om_ HK1.1⟩, ⟨bl_ HB.1⟩⟩
  have c14b0 := beq_eq_false_iff_ne.mpr c14; have c14b1 := bne_iff_ne.mpr c14; have H' := af.mk H; clear H; have p5 : (0 ≤ (x7_1 : Int)) = True := dT_; have q5 : (x7_1 < (a0.size : Int)) = True := dT_; have hx5 := bS a0 x7_1
  try go_wp2
  refine gD (bD HB.1) ?_; clear HB; intro HB; have p10 : (0 ≤ (x7_1 : Int)) = True := dT_; have q10 : (x7_1 < (a0.size : Int)) = True := dT_; have hx10 := bS a0 x7_1; refine dX (n := 16) (S := fun w' => True) (ds := []) (bm_ 16 0) (by kernel_rfl) rfl (by kernel_rfl) trivial (fun hHeld => ?_); refine cZ bG.tab7 bG.bits7 (fun HT_ HW_ => ?_); generalize wr.drew = w18 at HB hHeld ⊢; refine pt_ HT_.1 (i := 0) (N := some 14) (bm_ 16 1) ?_; refine pt_ HT_.1 (i := 1) (N := some 15) (bm_ 16 3) ?_; refine pt_ HT_.1 (i := 3) (N := some 17) (bm_ 16 11) ?_; refine pt_ HT_.1 (i := 4) (N := some 18) (bm_ 16 27) ?_; refine take_ (i := 5) (N := some 19) (v := ?_) (a' := ?_) (bm_ 16 59) rfl rfl (iB HT_.1 HW_.1 (by kernel_rfl)) (fun _ _ _ h => h) (Or.inl ⟨by rfl, ?_⟩) hHeld ?_ ?_; rotate_left
  ·
   intro w' _; go_simp
   with_reducible rfl
  rotate_left
  ·
   simp only [Act.put, List.setIfInBounds_toArray, List.set_cons_zero, List.set_cons_succ, cz, cK]
   rfl
  refine on_ HT_.1 (i := 2) (N := some 16) (bm_ 16 63) (fun K hK => ?_); refine kP Tryz.func72 (by kernel_rfl) rfl #[] (by rfl) rfl rfl ga_ ?_
  with_reducible refine (aR.calls  t105 _ A9.1).mono ?_
  rintro e w19 ⟨rfl, hb⟩; refine ⟨_, rfl, ?_⟩; refine gD (ah (bl_ HB.1) hb) ?_; clear HB; intro HB; (try clear hb); have p13 : 0 ≤ ((bt a0 x7_1) : Int) := dt_; have q13 : ((bt a0 x7_1) : Int) < 256 := dt_; have hx13 := aR.at_run A9.1 (bt a0 x7_1) p13 q13; replace p13 := eq_true p13; replace q13 := eq_true q13; refine hK.out _ _ trivial (fun hHeld => ?_); clear hK K; refine nm_ ?_; refine take_ (i := 6) (N := some 20) (v := ?_) (a' := ?_) (bm_ 16 127) rfl rfl (iB HT_.1 HW_.1 (by kernel_rfl)) (fun _ _ _ h => h) (Or.inl ⟨by rfl, ?_⟩) hHeld ?_ ?_; rotate_left
  ·
   intro w' _; go_simp
   with_reducible rfl
  rotate_left
  ·
   simp only [Act.put, List.setIfInBounds_toArray, List.set_cons_zero, List.set_cons_succ, cz, cK]
   rfl
  refine pt_ HT_.1 (i := 7) (N := some 21) (bm_ 16 255) ?_; refine pt_ HT_.1 (i := 8) (N := some 22) (bm_ 16 511) ?_; refine iJ (i := 9) (N := some 23) (v := undef) (a' := ?_) (bm_ 16 1023) rfl rfl (gF HT_.1 (by kernel_rfl)) (fun _ _ _ h => h) (Or.inr ⟨by rfl, rfl⟩) ?_ ?_; rotate_left
  ·
   simp only [Act.put, List.setIfInBounds_toArray, List.set_cons_zero, List.set_cons_succ, cz, cK]
   rfl
  refine iJ (i := 10) (N := some 24) (v := undef) (a' := ?_) (bm_ 16 2047) rfl rfl (gF HT_.1 (by kernel_rfl)) (fun _ _ _ h => h) (Or.inr ⟨by rfl, rfl⟩) ?_ ?_; rotate_left
  ·
   simp only [Act.put, List.setIfInBounds_toArray, List.set_cons_zero, List.set_cons_succ, cz, cK]
   rfl
  refine iJ (i := 11) (N := some 25) (v := undef) (a' := ?_) (bm_ 16 4095) rfl rfl (gF HT_.1 (by kernel_rfl)) (fun _ _ _ h => h) (Or.inr ⟨by rfl, rfl⟩) ?_ ?_; rotate_left
  ·
   simp only [Act.put, List.setIfInBounds_toArray, List.set_cons_zero, List.set_cons_succ, cz, cK]
   rfl
  refine iJ (i := 12) (N := some 26) (v := undef) (a' := ?_) (bm_ 16 8191) rfl rfl (gF HT_.1 (by kernel_rfl)) (fun _ _ _ h => h) (Or.inr ⟨by rfl, rfl⟩) ?_ ?_; rotate_left
  ·
   simp only [Act.put, List.setIfInBounds_toArray, List.set_cons_zero, List.set_cons_succ, cz, cK]
   rfl
  refine pt_ HT_.1 (i := 13) (N := some 27) (bm_ 16 16383) ?_; refine pt_ HT_.1 (i := 14) (N := some 28) (bm_ 16 32767) ?_; refine pt_ HT_.1 (i := 15) (N := some 3) (bm_ 16 65535) ?_; refine gB (eB HT_.1 (by kernel_rfl)) ?_
  try go_wp2
  go_roundg k1
  case measure => have := HK1.1; omega
  case rel => exact ⟨(false), (wrap64 (x7_1 + 1)), sr_, sr_, H', ⟨om_ HK1.1⟩, ⟨bl_ HB.1⟩⟩
mutual
def aJ.j0 : Nat → ByteArray → ByteArray → Bool → Option (Int × Int)
 | 0, _, _, _ => none
 | k + 1, x4, x5, x39 => if x39 = true then (some (0, 2)) else (aJ.l0 k x4 x5 (wrap64 ((x4.size : Int) + (x5.size : Int))) 0)
def aJ.l0 : Nat → ByteArray → ByteArray → Int → Int → Option (Int × Int)
 | 0, _, _, _, _ => none
 | k + 1, x4, x5, x44, x45 => if x45 < x44 then ((aR.f).bind fun t109 => (if x4.size + x5.size ≤ 9223372036854775807 then (if 0 ≤ x45 then (if x45 < ((x4 ++ x5).size : Int) then (if 0 ≤ (bt (x4 ++ x5) x45) then (if (bt (x4 ++ x5) x45) < 256 then (if (aR.at_ (bt (x4 ++ x5) x45)) = 3 then (aJ.l0 k x4 x5 x44 (wrap64 (x45 + 1))) else (some (0, 2))) else (none)) else (none)) else (none)) else (none)) else (none))) else (if (x4.size : Int) > 10 then (some (0, 5)) else (if x5.size + 3 ≤ 9223372036854775807 then (if 0 ≤ 3 then (if 3 ≤ ((x5 ++ (⟨#[48, 48, 48]⟩ : ByteArray)).size : Int) then (if x4.size + ((x5 ++ (⟨#[48, 48, 48]⟩ : ByteArray)).extract 0 3).size ≤ 9223372036854775807 then ((dJ.f (x4 ++ ((x5 ++ (⟨#[48, 48, 48]⟩ : ByteArray)).extract 0 3)) 10 64).bind fun bt110 => (if bt110.1 > 1000000000 then (some (0, 5)) else (some (bt110.1, 0)))) else (none)) else (none)) else (none)) else (none)))
end
def aJ.f (k : Nat) (a0 : ByteArray) : Option (Int × Int) := (strings_Cut.f a0 (⟨#[46]⟩ : ByteArray)).bind fun bt106 => (if bt106.1.toList = ([] : List UInt8) then (aJ.j0 k bt106.1 bt106.2.1 true) else (if (bt106.1.size : Int) > 1 then (if 0 < (bt106.1.size : Int) then (if (bt bt106.1 0) = 48 then (aJ.j0 k bt106.1 bt106.2.1 true) else (if bt106.2.2 = true then (if bt106.2.1.toList = ([] : List UInt8) then (aJ.j0 k bt106.1 bt106.2.1 true) else (aJ.j0 k bt106.1 bt106.2.1 (decide ((bt106.2.1.size : Int) > 3)))) else (aJ.j0 k bt106.1 bt106.2.1 false))) else (none)) else (if bt106.2.2 = true then (if bt106.2.1.toList = ([] : List UInt8) then (aJ.j0 k bt106.1 bt106.2.1 true) else (aJ.j0 k bt106.1 bt106.2.1 (decide ((bt106.2.1.size : Int) > 3)))) else (aJ.j0 k bt106.1 bt106.2.1 false))))
theorem aJ.mono_l : ∀ k, (∀ y0 y1 y2, LeO (aJ.j0 k y0 y1 y2) (aJ.j0 (k + 1) y0 y1 y2)) ∧ (∀ y0 y1 y2 y3, LeO (aJ.l0 k y0 y1 y2 y3) (aJ.l0 (k + 1) y0 y1 y2 y3))
 | 0 => ⟨fun _ _ _ r h => by simp [aJ.j0] at h, fun _ _ _ _ r h => by simp [aJ.l0] at h⟩
 | k + 1 => by
  obtain ⟨ih0, ih1⟩ := aJ.mono_l k
  refine ⟨?_, ?_⟩
  ·
   intro y0 y1 y2
   unfold aJ.j0
   repeat' first
   | (with_reducible exact LeO.refl _)
   | exact ih0 _ _ _
   | exact ih1 _ _ _ _
   | exact LeO.none _
   | refine LeO.ite ?_ ?_
   | refine LeO.bind ?_ (fun _ => ?_)
  ·
   intro y0 y1 y2 y3
   unfold aJ.l0
   repeat' first
   | (with_reducible exact LeO.refl _)
   | exact ih0 _ _ _
   | exact ih1 _ _ _ _
   | exact LeO.none _
   | refine LeO.ite ?_ ?_
   | refine LeO.bind ?_ (fun _ => ?_)
theorem aJ.mono : ∀ a0 k, LeO (aJ.f k a0) (aJ.f (k + 1) a0) := by
 intro a0 k
 obtain ⟨ih0, ih1⟩ := aJ.mono_l k
 unfold aJ.f
 repeat' first
   | (with_reducible exact LeO.refl _)
   | exact ih0 _ _ _
   | exact ih1 _ _ _ _
   | exact LeO.none _
   | refine LeO.ite ?_ ?_
   | refine LeO.bind ?_ (fun _ => ?_)
def aJ.T7 : Bool × List (List Nat × List Nat) := (true, [([], []), ([], []), ([], []), ([1, 2], [1, 2]), ([], []), ([3, 4], [3, 4]), ([0, 5], [0, 5]), ([6], [6])])
def aJ.B7 : List Nat := [0, 0, 0, 6, 0, 30, 63, 127]
theorem aJ.tab7 : rtab .any (opsOf Tryz.f102 7) = aJ.T7 := by kernel_rfl
theorem aJ.bits7 : fJ aJ.T7.2 aJ.B7 = true := by kernel_rfl
theorem aJ.calls (k : Nat) (a0 : ByteArray) (r1 : Int) (r2 : Int) (w : World) (h : aJ.f k a0 = some (r1, r2)) :
  Calls Tryz.prog 102 #[.string a0] w fun e w' => e = .returned (.tuple #[.int .i64 r1, .int .i64 r2]) ∧ Below w.heap.size w w' := by
 have HB := af.mk (Below.refl w.heap.size w); have H : ((strings_Cut.f a0 (⟨#[46]⟩ : ByteArray)).bind fun bt106 => (if bt106.1.toList = ([] : List UInt8) then (aJ.j0 k bt106.1 bt106.2.1 true) else (if (bt106.1.size : Int) > 1 then (if 0 < (bt106.1.size : Int) then (if (bt bt106.1 0) = 48 then (aJ.j0 k bt106.1 bt106.2.1 true) else (if bt106.2.2 = true then (if bt106.2.1.toList = ([] : List UInt8) then (aJ.j0 k bt106.1 bt106.2.1 true) else (aJ.j0 k bt106.1 bt106.2.1 (decide ((bt106.2.1.size : Int) > 3)))) else (aJ.j0 k bt106.1 bt106.2.1 false))) else (none)) else (if bt106.2.2 = true then (if bt106.2.1.toList = ([] : List UInt8) then (aJ.j0 k bt106.1 bt106.2.1 true) else (aJ.j0 k bt106.1 bt106.2.1 (decide ((bt106.2.1.size : Int) > 3)))) else (aJ.j0 k bt106.1 bt106.2.1 false))))) = some (r1, r2) := h; clear h; replace H := bn_ H; obtain ⟨⟨t106, t107, t108⟩, A2, H⟩ := H; (try dsimp only at H); have HC3 := af.mk H; clear H
 go_enter Tryz.func102, Tryz.ntmps102
 go_upto_region 2 with (first | ((with_reducible refine aj (f := 116) rfl ?_); refine gk_ (some 12) Tryz.func116 (strings_Cut.calls a0 (⟨#[46]⟩ : ByteArray) t106 t107 t108 _ A2.1) ?_; rintro e w4 ⟨rfl, hb⟩; refine ⟨_, rfl, ?_⟩; have n0_ := af.mk (ah (bl_ HB.1) hb); clear HB; have HB := n0_; clear n0_; (try clear hb); (try clear hb2); (try clear hk); (try clear hi)))
 (try simp only [Act.put, List.setIfInBounds_toArray, List.set_cons_zero, List.set_cons_succ])
 go_cut [39] (fun v39 wc => ∃ (kq : Nat) (x39_2 : Bool), v39 = .bool x39_2 ∧ af (aJ.j0 kq t106 t107 x39_2 = some (r1, r2)) ∧ af (kq ≤ k) ∧ af (Below w.heap.size w wc))
 case first =>
  have H := HC3.1; clear HC3; replace H := sp_ H; obtain ⟨c5, H⟩ | ⟨c5, H⟩ := H
  ·
   have c5b0 := beq_iff_eq.mpr c5; have c5b1 := bne_eq_false_iff_eq.mpr c5; clear c5
   (first | rw [c5b0] | (simp only [cz, cK]; rw [c5b0]) | skip)
   have H' := af.mk H; clear H
   go_wp2
   go_meet
   case rel => exact ⟨_, (true), sr_, H', ⟨by first | omega | exact Nat.le_refl _⟩, ⟨bl_ HB.1⟩⟩
  have c5b0 := beq_eq_false_iff_ne.mpr c5; have c5b1 := bne_iff_ne.mpr c5
  (first | rw [c5b0] | (simp only [cz, cK]; rw [c5b0]) | skip)
  replace H := (sp_ H).symm; obtain ⟨c6, H⟩ | ⟨c6, H⟩ := H
  ·
   have c6b0 := decide_eq_false c6; have c6b1 : decide (1 < t106.size) = false := decide_eq_false (by omega); clear c6; replace H := (sb_ H).symm; obtain ⟨rfl, H⟩ | ⟨rfl, H⟩ := H
   ·
    have H' := af.mk H; clear H
    go_wp2
    go_meet
    case rel => exact ⟨_, (false), sr_, H', ⟨by first | omega | exact Nat.le_refl _⟩, ⟨bl_ HB.1⟩⟩
   replace H := sp_ H; obtain ⟨c13, H⟩ | ⟨c13, H⟩ := H
   ·
    have c13b0 := beq_iff_eq.mpr c13; have c13b1 := bne_eq_false_iff_eq.mpr c13; clear c13; have H' := af.mk H; clear H
    go_wp2
    go_meet
    case rel => exact ⟨_, (true), sr_, H', ⟨by first | omega | exact Nat.le_refl _⟩, ⟨bl_ HB.1⟩⟩
   have c13b0 := beq_eq_false_iff_ne.mpr c13; have c13b1 := bne_iff_ne.mpr c13; have H' := af.mk H; clear H
   go_wp2
   go_meet
   case rel => exact ⟨_, (decide ((t107.size : Int) > 3)), sr_, H', ⟨by first | omega | exact Nat.le_refl _⟩, ⟨bl_ HB.1⟩⟩
  have c6b0 := decide_eq_true c6; have c6b1 : decide (1 < t106.size) = true := decide_eq_true (by omega); clear c6; replace H := gp_ H; obtain ⟨c7, H⟩ := H; have c7b0 := decide_eq_true c7; have c7b1 : decide (0 < t106.size) = true := decide_eq_true (by omega); clear c7; replace H := sp_ H; obtain ⟨c9, H⟩ | ⟨c9, H⟩ := H
  ·
   have c9b0 := beq_iff_eq.mpr c9; have c9b1 := bne_eq_false_iff_eq.mpr c9; clear c9; have H' := af.mk H; clear H; have p8 : 0 ≤ (0 : Int) := (by omega); have q8 : 0 < t106.size := (by have : (0 : Int) < (t106.size : Int) := dt_; omega); have hx8 : ∀ h : 0 < t106.size, ((t106[0]'h).toNat : Int) = bt t106 0 := bS t106 0; clear p8; have qi8 : (0 < (t106.size : Int)) = True := eq_true (dt_); replace q8 := eq_true q8
   go_wp2
   go_meet
   case rel => exact ⟨_, (true), sr_, H', ⟨by first | omega | exact Nat.le_refl _⟩, ⟨bl_ HB.1⟩⟩
  have c9b0 := beq_eq_false_iff_ne.mpr c9; have c9b1 := bne_iff_ne.mpr c9; replace H := (sb_ H).symm; obtain ⟨rfl, H⟩ | ⟨rfl, H⟩ := H
  ·
   have H' := af.mk H; clear H; have p8 : 0 ≤ (0 : Int) := (by omega); have q8 : 0 < t106.size := (by have : (0 : Int) < (t106.size : Int) := dt_; omega); have hx8 : ∀ h : 0 < t106.size, ((t106[0]'h).toNat : Int) = bt t106 0 := bS t106 0; clear p8; have qi8 : (0 < (t106.size : Int)) = True := eq_true (dt_); replace q8 := eq_true q8
   go_wp2
   go_meet
   case rel => exact ⟨_, (false), sr_, H', ⟨by first | omega | exact Nat.le_refl _⟩, ⟨bl_ HB.1⟩⟩
  replace H := sp_ H; obtain ⟨c11, H⟩ | ⟨c11, H⟩ := H
  ·
   have c11b0 := beq_iff_eq.mpr c11; have c11b1 := bne_eq_false_iff_eq.mpr c11; clear c11; have H' := af.mk H; clear H; have p8 : 0 ≤ (0 : Int) := (by omega); have q8 : 0 < t106.size := (by have : (0 : Int) < (t106.size : Int) := dt_; omega); have hx8 : ∀ h : 0 < t106.size, ((t106[0]'h).toNat : Int) = bt t106 0 := bS t106 0; clear p8; have qi8 : (0 < (t106.size : Int)) = True := eq_true (dt_); replace q8 := eq_true q8
   go_wp2
   go_meet
   case rel => exact ⟨_, (true), sr_, H', ⟨by first | omega | exact Nat.le_refl _⟩, ⟨bl_ HB.1⟩⟩
  have c11b0 := beq_eq_false_iff_ne.mpr c11; have c11b1 := bne_iff_ne.mpr c11; have H' := af.mk H; clear H; have p8 : 0 ≤ (0 : Int) := (by omega); have q8 : 0 < t106.size := (by have : (0 : Int) < (t106.size : Int) := dt_; omega); have hx8 : ∀ h : 0 < t106.size, ((t106[0]'h).toNat : Int) = bt t106 0 := bS t106 0; clear p8; have qi8 : (0 < (t106.size : Int)) = True := eq_true (dt_); replace q8 := eq_true q8
  go_wp2
  go_meet
  case rel => exact ⟨_, (decide ((t107.size : Int) > 3)), sr_, H', ⟨by first | omega | exact Nat.le_refl _⟩, ⟨bl_ HB.1⟩⟩
 case rest =>
  clear HC3; obtain ⟨kq, x39_2, rfl, HA, HJ2, HB⟩ := hcut
  cases kq with
  | zero => exact absurd HA.1 (by simp [aJ.j0])
  | succ kj2 =>
   have H := HA.1; clear HA; simp only [aJ.j0] at H; replace H := sb_ H; obtain ⟨rfl, H⟩ | ⟨rfl, H⟩ := H
   ·
    simp only [Option.some.injEq, Prod.mk.injEq] at H; obtain ⟨rfl, rfl⟩ := H
    go_wp2
    go_ret2
    exact ⟨er_, bl_ HB.1⟩
   have H' := af.mk H; clear H
   go_wp2
   go_loopg [45] kj2 (fun kq v45 w' => ∃ (x45_2 : Int), v45 = .int .i64 x45_2 ∧ af (aJ.l0 kq t106 t107 (wrap64 ((t106.size : Int) + (t107.size : Int))) x45_2 = some (r1, r2)) ∧ af (kq ≤ kj2) ∧ af (Below w.heap.size w w'))
   case atStart => exact ⟨(0), sr_, H', ⟨Nat.le_refl _⟩, ⟨bl_ HB.1⟩⟩
   case round =>
    clear H'; (try clear c14); obtain ⟨x45_2, rfl, HA, HK2, HB⟩ := hrel; obtain _ | k2 := gk
    · exact absurd HA.1 (by simp [aJ.l0])
    have H := HA.1; clear HA; simp only [aJ.l0] at H; replace H := (sd_ H).symm; obtain ⟨c15b0, H⟩ | ⟨c15b0, H⟩ := H
    ·
     replace H := sp_ H; obtain ⟨c29, H⟩ | ⟨c29, H⟩ := H
     ·
      have c29b0 := decide_eq_true c29; have c29b1 : decide (10 < t106.size) = true := decide_eq_true (by omega); clear c29; simp only [Option.some.injEq, Prod.mk.injEq] at H; obtain ⟨rfl, rfl⟩ := H
      go_wp2
      go_ret2
      exact ⟨er_, bl_ HB.1⟩
     have c29b0 := decide_eq_false c29; have c29b1 : decide (10 < t106.size) = false := decide_eq_false (by omega); clear c29; replace H := gp_ H; obtain ⟨c30, H⟩ := H; have c30b0 := eq_true c30; have c30b1 := decide_eq_true c30
     try have c30b2 : (9223372036854775807 < t107.size + 3) = False := eq_false (Nat.not_lt.2 c30)
     replace H := gt_ H; obtain ⟨c31b0, c31b1, H⟩ := H; replace H := gp_ H; obtain ⟨c32, H⟩ := H; have c32b0 := eq_true c32; have c32b1 := decide_eq_true c32; replace H := gp_ H; obtain ⟨c33, H⟩ := H; have c33b0 := eq_true c33; have c33b1 := decide_eq_true c33; (try (have c33b3 : (9223372036854775807 < t106.size + ((t107 ++ (⟨#[48, 48, 48]⟩ : ByteArray)).extract 0 3).size) = False := eq_false (Nat.not_lt.2 (by have h_ := c33; simp only [ByteArray.size_append] at h_; exact h_)))); (try (have c33b4 : (t106.size + ((t107 ++ (⟨#[48, 48, 48]⟩ : ByteArray)).extract 0 3).size ≤ 9223372036854775807) = True := eq_true (by have h_ := c33; simp only [ByteArray.size_append] at h_; exact h_)))
     try have c33b2 : (9223372036854775807 < t106.size + ((t107 ++ (⟨#[48, 48, 48]⟩ : ByteArray)).extract 0 3).size) = False := eq_false (Nat.not_lt.2 c33)
     replace H := bn_ H; obtain ⟨⟨t110, t111⟩, A34, H⟩ := H; (try dsimp only at H); replace H := sd_ H; obtain ⟨c35b0, H⟩ | ⟨c35b0, H⟩ := H
     ·
      simp only [Option.some.injEq, Prod.mk.injEq] at H; obtain ⟨rfl, rfl⟩ := H
      go_wp2_with (first | ((with_reducible refine aj (f := 117) rfl ?_); refine gk_ (some 66) Tryz.func117 (dJ.calls (t106 ++ ((t107 ++ (⟨#[48, 48, 48]⟩ : ByteArray)).extract 0 3)) 10 64 t110 t111 _ A34.1) ?_; rintro e w36 ⟨rfl, hb⟩; refine ⟨_, rfl, ?_⟩; refine gD (ah (bl_ HB.1) hb) ?_; clear hb HB; intro HB))
      go_ret2
      exact ⟨er_, bl_ HB.1⟩
     simp only [Option.some.injEq, Prod.mk.injEq] at H; obtain ⟨rfl, rfl⟩ := H
     go_wp2_with (first | ((with_reducible refine aj (f := 117) rfl ?_); refine gk_ (some 66) Tryz.func117 (dJ.calls (t106 ++ ((t107 ++ (⟨#[48, 48, 48]⟩ : ByteArray)).extract 0 3)) 10 64 t110 t111 _ A34.1) ?_; rintro e w37 ⟨rfl, hb⟩; refine ⟨_, rfl, ?_⟩; refine gD (ah (bl_ HB.1) hb) ?_; clear hb HB; intro HB))
     go_ret2
     exact ⟨er_, bl_ HB.1⟩
    replace H := bn_ H; obtain ⟨t109, A16, H⟩ := H; (try dsimp only at H); replace H := gp_ H; obtain ⟨c17, H⟩ := H; have c17b0 := eq_true c17; have c17b1 := decide_eq_true c17
    try have c17b2 : (9223372036854775807 < t106.size + t107.size) = False := eq_false (Nat.not_lt.2 c17)
    replace H := gd_ H; obtain ⟨c18b0, H⟩ := H; replace H := gd_ H; obtain ⟨c19b0, H⟩ := H; replace H := gd_ H; obtain ⟨c21b0, H⟩ := H; replace H := gd_ H; obtain ⟨c22b0, H⟩ := H; replace H := (sp_ H).symm; obtain ⟨c24, H⟩ | ⟨c24, H⟩ := H
    ·
     have c24b0 := beq_eq_false_iff_ne.mpr c24; have c24b1 := bne_iff_ne.mpr c24; simp only [Option.some.injEq, Prod.mk.injEq] at H; obtain ⟨rfl, rfl⟩ := H
     try go_wp2
     refine gD (bD HB.1) ?_; clear HB; intro HB; have p20 : (0 ≤ (x45_2 : Int)) = True := dT_; have q20 : x45_2 < ((t106 ++ t107).size : Int) := dt_; have hx20 := bS (t106 ++ t107) x45_2; (try (have qi20 : (x45_2 < (t106.size : Int) + (t107.size : Int)) = True := eq_true (by have h_ := q20; simpa [ByteArray.size_append] using h_))); replace q20 := eq_true q20; refine dX (n := 8) (S := fun w' => True) (ds := []) (bm_ 8 0) (by kernel_rfl) rfl (by kernel_rfl) trivial (fun hHeld => ?_); refine cZ aJ.tab7 aJ.bits7 (fun HT_ HW_ => ?_); generalize wr.drew = w27 at HB hHeld ⊢; refine pt_ HT_.1 (i := 1) (N := some 49) (bm_ 8 2) ?_; refine pt_ HT_.1 (i := 2) (N := some 50) (bm_ 8 6) ?_; refine pt_ HT_.1 (i := 3) (N := some 51) (bm_ 8 14) ?_; refine pt_ HT_.1 (i := 4) (N := some 52) (bm_ 8 30) ?_; refine take_ (i := 5) (N := some 53) (v := ?_) (a' := ?_) (bm_ 8 62) rfl rfl (iB HT_.1 HW_.1 (by kernel_rfl)) (fun _ _ _ h => h) (Or.inl ⟨by rfl, ?_⟩) hHeld ?_ ?_; rotate_left
     ·
      intro w' _; go_simp
      with_reducible rfl
     rotate_left
     ·
      simp only [Act.put, List.setIfInBounds_toArray, List.set_cons_zero, List.set_cons_succ, cz, cK]
      rfl
     refine on_ HT_.1 (i := 0) (N := some 48) (bm_ 8 63) (fun K hK => ?_); refine kP Tryz.func72 (by kernel_rfl) rfl #[] (by rfl) rfl rfl ga_ ?_
     with_reducible refine (aR.calls  t109 _ A16.1).mono ?_
     rintro e w28 ⟨rfl, hb⟩; refine ⟨_, rfl, ?_⟩; refine gD (ah (bl_ HB.1) hb) ?_; clear hb HB; intro HB; have p23 : 0 ≤ ((bt (t106 ++ t107) x45_2) : Int) := dt_; have q23 : ((bt (t106 ++ t107) x45_2) : Int) < 256 := dt_; have hx23 := aR.at_run A16.1 (bt (t106 ++ t107) x45_2) p23 q23; replace p23 := eq_true p23; replace q23 := eq_true q23; refine hK.out _ _ trivial (fun hHeld => ?_); clear hK K; refine nm_ ?_; refine take_ (i := 6) (N := some 54) (v := ?_) (a' := ?_) (bm_ 8 127) rfl rfl (iB HT_.1 HW_.1 (by kernel_rfl)) (fun _ _ _ h => h) (Or.inl ⟨by rfl, ?_⟩) hHeld ?_ ?_; rotate_left
     ·
      intro w' _; go_simp
      with_reducible rfl
     rotate_left
     ·
      simp only [Act.put, List.setIfInBounds_toArray, List.set_cons_zero, List.set_cons_succ, cz, cK]
      rfl
     refine pt_ HT_.1 (i := 7) (N := some 55) (bm_ 8 255) ?_; refine gB (eB HT_.1 (by kernel_rfl)) ?_
     try go_wp2
     go_ret2
     exact ⟨er_, bl_ HB.1⟩
    have c24b0 := beq_iff_eq.mpr c24; have c24b1 := bne_eq_false_iff_eq.mpr c24; clear c24; have H' := af.mk H; clear H
    try go_wp2
    refine gD (bD HB.1) ?_; clear HB; intro HB; have p20 : (0 ≤ (x45_2 : Int)) = True := dT_; have q20 : x45_2 < ((t106 ++ t107).size : Int) := dt_; have hx20 := bS (t106 ++ t107) x45_2; (try (have qi20 : (x45_2 < (t106.size : Int) + (t107.size : Int)) = True := eq_true (by have h_ := q20; simpa [ByteArray.size_append] using h_))); replace q20 := eq_true q20; refine dX (n := 8) (S := fun w' => True) (ds := []) (bm_ 8 0) (by kernel_rfl) rfl (by kernel_rfl) trivial (fun hHeld => ?_); refine cZ aJ.tab7 aJ.bits7 (fun HT_ HW_ => ?_); generalize wr.drew = w25 at HB hHeld ⊢; refine pt_ HT_.1 (i := 1) (N := some 49) (bm_ 8 2) ?_; refine pt_ HT_.1 (i := 2) (N := some 50) (bm_ 8 6) ?_; refine pt_ HT_.1 (i := 3) (N := some 51) (bm_ 8 14) ?_; refine pt_ HT_.1 (i := 4) (N := some 52) (bm_ 8 30) ?_; refine take_ (i := 5) (N := some 53) (v := ?_) (a' := ?_) (bm_ 8 62) rfl rfl (iB HT_.1 HW_.1 (by kernel_rfl)) (fun _ _ _ h => h) (Or.inl ⟨by rfl, ?_⟩) hHeld ?_ ?_; rotate_left
    ·
     intro w' _; go_simp
     with_reducible rfl
    rotate_left
    ·
     simp only [Act.put, List.setIfInBounds_toArray, List.set_cons_zero, List.set_cons_succ, cz, cK]
     rfl
    refine on_ HT_.1 (i := 0) (N := some 48) (bm_ 8 63) (fun K hK => ?_); refine kP Tryz.func72 (by kernel_rfl) rfl #[] (by rfl) rfl rfl ga_ ?_
    with_reducible refine (aR.calls  t109 _ A16.1).mono ?_
    rintro e w26 ⟨rfl, hb⟩; refine ⟨_, rfl, ?_⟩; refine gD (ah (bl_ HB.1) hb) ?_; clear hb HB; intro HB; have p23 : 0 ≤ ((bt (t106 ++ t107) x45_2) : Int) := dt_; have q23 : ((bt (t106 ++ t107) x45_2) : Int) < 256 := dt_; have hx23 := aR.at_run A16.1 (bt (t106 ++ t107) x45_2) p23 q23; replace p23 := eq_true p23; replace q23 := eq_true q23; refine hK.out _ _ trivial (fun hHeld => ?_); clear hK K; refine nm_ ?_; refine take_ (i := 6) (N := some 54) (v := ?_) (a' := ?_) (bm_ 8 127) rfl rfl (iB HT_.1 HW_.1 (by kernel_rfl)) (fun _ _ _ h => h) (Or.inl ⟨by rfl, ?_⟩) hHeld ?_ ?_; rotate_left
    ·
     intro w' _; go_simp
     with_reducible rfl
    rotate_left
    ·
     simp only [Act.put, List.setIfInBounds_toArray, List.set_cons_zero, List.set_cons_succ, cz, cK]
     rfl
    refine pt_ HT_.1 (i := 7) (N := some 55) (bm_ 8 255) ?_; refine gB (eB HT_.1 (by kernel_rfl)) ?_
    try go_wp2
    go_roundg k2
    case measure => have := HJ2.1; have := HK2.1; omega
    case rel => exact ⟨(wrap64 (x45_2 + 1)), sr_, H', ⟨by have := HJ2.1; have := HK2.1; omega⟩, ⟨bl_ HB.1⟩⟩
def fE.f (k : Nat) (a0 : ByteArray) : Option (Int × ByteArray × Int × Int × Int) := (aJ.f k a0).bind fun bt113 => (if bt113.2 = 2 then ((bG.f k a0).bind fun t115 => (some (1, a0, 0, 0, t115))) else (some (2, (⟨#[]⟩ : ByteArray), bt113.1, 0, bt113.2)))
theorem fE.mono : ∀ a0 k, LeO (fE.f k a0) (fE.f (k + 1) a0) := by
 intro a0 k
 unfold fE.f
 repeat' first
   | (with_reducible exact LeO.refl _)
   | exact aJ.mono _ _
   | exact bG.mono _ _
   | exact LeO.none _
   | refine LeO.ite ?_ ?_
   | refine LeO.bind ?_ (fun _ => ?_)
theorem fE.calls (k : Nat) (a0 : ByteArray) (r1 : Int) (r2 : ByteArray) (r3 : Int) (r4 : Int) (r5 : Int) (w : World) (h : fE.f k a0 = some (r1, r2, r3, r4, r5)) :
  Calls Tryz.prog 87 #[.string a0] w fun e w' => e = .returned (.tuple #[.agg #[.int .i64 r1, .string r2, .int .i64 r3, .int .i64 r4], .int .i64 r5]) ∧ Below w.heap.size w w' := by
 have hu46 := Tryz.underlying50; have HB := af.mk (Below.refl w.heap.size w); have H : ((aJ.f k a0).bind fun bt113 => (if bt113.2 = 2 then ((bG.f k a0).bind fun t115 => (some (1, a0, 0, 0, t115))) else (some (2, (⟨#[]⟩ : ByteArray), bt113.1, 0, bt113.2)))) = some (r1, r2, r3, r4, r5) := h; clear h; replace H := bn_ H; obtain ⟨⟨t113, t114⟩, A2, H⟩ := H; (try dsimp only at H); replace H := (sp_ H).symm; obtain ⟨c3, H⟩ | ⟨c3, H⟩ := H
 ·
  have c3b0 := beq_eq_false_iff_ne.mpr c3; have c3b1 := bne_iff_ne.mpr c3; simp only [Option.some.injEq, Prod.mk.injEq] at H; obtain ⟨rfl, rfl, rfl, rfl, rfl⟩ := H
  go_enter Tryz.func87, Tryz.ntmps87
  go_wp2_with (first | ((with_reducible refine aA (N := 2) rfl ?_); refine bx_ (N := 2) (cs := #[.int .i64 0, .string (⟨#[]⟩ : ByteArray), .int .i64 0, .int .i64 0]) (t := 50) ?_; intro gb112 hg w9 hbox hb; refine df (ah (bl_ HB.1) hb) (hbox) (bz_ (w := w) hg (bl_ HB.1)) (bz_ (w := w) hg (bl_ HB.1)) ?_; clear HB; intro HB BK112 GW112 GE112; clear hb hbox hg) | ((with_reducible refine aj (f := 102) rfl ?_); refine gk_ (some 8) Tryz.func102 (aJ.calls k a0 t113 t114 _ A2.1) ?_; rintro e w10 ⟨rfl, hb⟩; refine ⟨_, rfl, ?_⟩; refine fK (bb_ BK112.1 hb) (ah (bl1_ HB.1 GE112.1) hb) ?_; clear hb BK112 HB; intro BK112 HB; obtain ⟨hcz11_0, hcz11_1, hcz11_2, hcz11_3, hfz11_0, hfz11_1, hfz11_2, hfz11_3⟩ := cq4_ BK112.1))
  refine bodyPost_ret (results_ct rfl _ _ gb112 50 #[.int .i64 2, .string (⟨#[]⟩ : ByteArray), .int .i64 t113, .int .i64 0] (0, 0) _ rfl (by exact dK (bk_ BK112.1)) Tryz.underlying50 rfl (by kernel_rfl)) rfl ?_; exact ⟨er_, bl1_ HB.1 GE112.1⟩
 have c3b0 := beq_iff_eq.mpr c3; have c3b1 := bne_eq_false_iff_eq.mpr c3; clear c3; replace H := bn_ H; obtain ⟨t115, A4, H⟩ := H; (try dsimp only at H); simp only [Option.some.injEq, Prod.mk.injEq] at H; obtain ⟨rfl, rfl, rfl, rfl, rfl⟩ := H
 go_enter Tryz.func87, Tryz.ntmps87
 go_wp2_with (first | ((with_reducible refine aA (N := 2) rfl ?_); refine bx_ (N := 2) (cs := #[.int .i64 0, .string (⟨#[]⟩ : ByteArray), .int .i64 0, .int .i64 0]) (t := 50) ?_; intro gb112 hg w5 hbox hb; refine df (ah (bl_ HB.1) hb) (hbox) (bz_ (w := w) hg (bl_ HB.1)) (bz_ (w := w) hg (bl_ HB.1)) ?_; clear HB; intro HB BK112 GW112 GE112; clear hb hbox hg) | ((with_reducible refine aj (f := 102) rfl ?_); refine gk_ (some 8) Tryz.func102 (aJ.calls k a0 t113 t114 _ A2.1) ?_; rintro e w6 ⟨rfl, hb⟩; refine ⟨_, rfl, ?_⟩; refine fK (bb_ BK112.1 hb) (ah (bl1_ HB.1 GE112.1) hb) ?_; clear hb BK112 HB; intro BK112 HB) | ((with_reducible refine aj (f := 89) rfl ?_); refine gk_ (some 19) Tryz.func89 (bG.calls k a0 t115 _ A4.1) ?_; rintro e w7 ⟨rfl, hb⟩; refine ⟨_, rfl, ?_⟩; refine fK (bb_ BK112.1 hb) (ah (bl1_ HB.1 GE112.1) hb) ?_; clear hb BK112 HB; intro BK112 HB; obtain ⟨hcz8_0, hcz8_1, hcz8_2, hcz8_3, hfz8_0, hfz8_1, hfz8_2, hfz8_3⟩ := cq4_ BK112.1))
 refine bodyPost_ret (results_ct rfl _ _ gb112 50 #[.int .i64 1, .string a0, .int .i64 0, .int .i64 0] (0, 0) _ rfl (by exact dK (bk_ BK112.1)) Tryz.underlying50 rfl (by kernel_rfl)) rfl ?_; exact ⟨er_, bl1_ HB.1 GE112.1⟩
mutual
def bi.j0 : Nat → ByteArray → Bool → Option (Int)
 | 0, _, _ => none
 | k + 1, x0, x18 => if x18 = true then (some 2) else (bi.l0 k x0 (x0.size : Int) 0)
def bi.l0 : Nat → ByteArray → Int → Int → Option (Int)
 | 0, _, _, _ => none
 | k + 1, x0, x20, x21 => if x21 < x20 then (if 0 ≤ x21 then (if x21 < (x0.size : Int) then (if (bt x0 x21) < 32 then (some 2) else (if (bt x0 x21) > 126 then (some 2) else (if (bt x0 x21) = 34 then (some 2) else (bi.l0 k x0 x20 (wrap64 (x21 + 1)))))) else (none)) else (none)) else (if (x0.size : Int) > 40 then (some 6) else (some 0))
end
def bi.f (k : Nat) (a0 : ByteArray) : Option (Int) := if a0.toList = ([] : List UInt8) then (bi.j0 k a0 true) else (if 0 < (a0.size : Int) then (if (bt a0 0) = 32 then (bi.j0 k a0 true) else (if 0 ≤ (wrap64 ((a0.size : Int) - 1)) then (if (wrap64 ((a0.size : Int) - 1)) < (a0.size : Int) then (bi.j0 k a0 ((bt a0 (wrap64 ((a0.size : Int) - 1))) == 32)) else (none)) else (none))) else (none))
theorem bi.mono_l : ∀ k, (∀ y0 y1, LeO (bi.j0 k y0 y1) (bi.j0 (k + 1) y0 y1)) ∧ (∀ y0 y1 y2, LeO (bi.l0 k y0 y1 y2) (bi.l0 (k + 1) y0 y1 y2))
 | 0 => ⟨fun _ _ r h => by simp [bi.j0] at h, fun _ _ _ r h => by simp [bi.l0] at h⟩
 | k + 1 => by
  obtain ⟨ih0, ih1⟩ := bi.mono_l k
  refine ⟨?_, ?_⟩
  ·
   intro y0 y1
   unfold bi.j0
   repeat' first
   | (with_reducible exact LeO.refl _)
   | exact ih0 _ _
   | exact ih1 _ _ _
   | exact LeO.none _
   | refine LeO.ite ?_ ?_
   | refine LeO.bind ?_ (fun _ => ?_)
  ·
   intro y0 y1 y2
   unfold bi.l0
   repeat' first
   | (with_reducible exact LeO.refl _)
   | exact ih0 _ _
   | exact ih1 _ _ _
   | exact LeO.none _
   | refine LeO.ite ?_ ?_
   | refine LeO.bind ?_ (fun _ => ?_)
theorem bi.mono : ∀ a0 k, LeO (bi.f k a0) (bi.f (k + 1) a0) := by
 intro a0 k
 obtain ⟨ih0, ih1⟩ := bi.mono_l k
 unfold bi.f
 repeat' first
   | (with_reducible exact LeO.refl _)
   | exact ih0 _ _
   | exact ih1 _ _ _
   | exact LeO.none _
   | refine LeO.ite ?_ ?_
   | refine LeO.bind ?_ (fun _ => ?_)
theorem bi.calls (k : Nat) (a0 : ByteArray) (r : Int) (w : World) (h : bi.f k a0 = some r) :
  Calls Tryz.prog 71 #[.string a0] w fun e w' => e = .returned (.int .i64 r) ∧ aK w w' := by
 have H : (if a0.toList = ([] : List UInt8) then (bi.j0 k a0 true) else (if 0 < (a0.size : Int) then (if (bt a0 0) = 32 then (bi.j0 k a0 true) else (if 0 ≤ (wrap64 ((a0.size : Int) - 1)) then (if (wrap64 ((a0.size : Int) - 1)) < (a0.size : Int) then (bi.j0 k a0 ((bt a0 (wrap64 ((a0.size : Int) - 1))) == 32)) else (none)) else (none))) else (none))) = some r := h; clear h; have HC2 := af.mk H; clear H
 go_enter Tryz.func71, Tryz.ntmps71
 go_upto_region 1 with (fail)
 go_cut [18] (fun v18 wc => ∃ (kq : Nat) (x18_1 : Bool), v18 = .bool x18_1 ∧ af (bi.j0 kq a0 x18_1 = some r) ∧ af (kq ≤ k) ∧ aK w wc)
 case first =>
  have H := HC2.1; clear HC2; replace H := sp_ H; obtain ⟨c3, H⟩ | ⟨c3, H⟩ := H
  ·
   have c3b0 := beq_iff_eq.mpr c3; have c3b1 := bne_eq_false_iff_eq.mpr c3; clear c3
   (first | rw [c3b0] | (simp only [cz, cK]; rw [c3b0]) | skip)
   have H' := af.mk H; clear H
   go_wp2
   go_meet
   case rel => exact ⟨_, (true), sr_, H', ⟨by first | omega | exact Nat.le_refl _⟩, by repeat (first | exact aK.refl _ | apply aK.step)⟩
  have c3b0 := beq_eq_false_iff_ne.mpr c3; have c3b1 := bne_iff_ne.mpr c3
  (first | rw [c3b0] | (simp only [cz, cK]; rw [c3b0]) | skip)
  replace H := gp_ H; obtain ⟨c4, H⟩ := H; have c4b0 := decide_eq_true c4; have c4b1 : decide (0 < a0.size) = true := decide_eq_true (by omega); clear c4; replace H := sp_ H; obtain ⟨c6, H⟩ | ⟨c6, H⟩ := H
  ·
   have c6b0 := beq_iff_eq.mpr c6; have c6b1 := bne_eq_false_iff_eq.mpr c6; clear c6; have H' := af.mk H; clear H; have p5 : 0 ≤ (0 : Int) := (by omega); have q5 : 0 < a0.size := (by have : (0 : Int) < (a0.size : Int) := dt_; omega); have hx5 : ∀ h : 0 < a0.size, ((a0[0]'h).toNat : Int) = bt a0 0 := bS a0 0; clear p5; have qi5 : (0 < (a0.size : Int)) = True := eq_true (dt_); replace q5 := eq_true q5
   go_wp2
   go_meet
   case rel => exact ⟨_, (true), sr_, H', ⟨by first | omega | exact Nat.le_refl _⟩, by repeat (first | exact aK.refl _ | apply aK.step)⟩
  have c6b0 := beq_eq_false_iff_ne.mpr c6; have c6b1 := bne_iff_ne.mpr c6; obtain ⟨ji7, hji7⟩ : ∃ j_ : Int, (wrap64 ((a0.size : Int) - 1)) = j_ := ⟨_, rfl⟩; replace H : (if 0 ≤ (ji7) then (if (ji7) < (a0.size : Int) then (bi.j0 k a0 ((bt a0 (ji7)) == 32)) else (none)) else (none)) = some r := by first | (rw [hji7] at H; exact H) | (simp only [hji7] at H ⊢; exact H)
  have hji7w : (IntKind.i64.wrap ((a0.size : Int) - 1)) = ji7 := (cz _).trans hji7; replace H := gd_ H; obtain ⟨c8b0, H⟩ := H; replace H := gd_ H; obtain ⟨c9b0, H⟩ := H; have H' := af.mk H; clear H; have p5 : 0 ≤ (0 : Int) := (by omega); have q5 : 0 < a0.size := (by have : (0 : Int) < (a0.size : Int) := dt_; omega); have hx5 : ∀ h : 0 < a0.size, ((a0[0]'h).toNat : Int) = bt a0 0 := bS a0 0; clear p5; have qi5 : (0 < (a0.size : Int)) = True := eq_true (dt_); replace q5 := eq_true q5; have p10 : (0 ≤ ((ji7) : Int)) = True := dT_; have q10 : ((ji7) < (a0.size : Int)) = True := dT_; have hx10 := bS a0 (ji7)
  go_wp2
  go_meet
  case rel => exact ⟨_, (((bt a0 (ji7)) == 32)), (by first | rfl | (simp; done) | (simp only [← hji7] <;> (first | rfl | simp)) | (simp [*]; done)), H', ⟨by first | omega | exact Nat.le_refl _⟩, by repeat (first | exact aK.refl _ | apply aK.step)⟩
 case rest =>
  clear HC2; obtain ⟨kq, x18_1, rfl, HA, HJ1, ⟨mc1, rfl⟩⟩ := hcut
  cases kq with
  | zero => exact absurd HA.1 (by simp [bi.j0])
  | succ kj1 =>
   have H := HA.1; clear HA; simp only [bi.j0] at H; replace H := sb_ H; obtain ⟨rfl, H⟩ | ⟨rfl, H⟩ := H
   ·
    obtain rfl := Option.some.inj H
    go_wp2
    go_ret
    exact ⟨by first | rfl | (simp; done) | (simp [*]; done) | (simp <;> rfl), by repeat (first | exact aK.refl _ | apply aK.step)⟩
   have H' := af.mk H; clear H
   go_wp2
   go_loopg [21] kj1 (fun kq v21 w' => ∃ (x21_2 : Int), v21 = .int .i64 x21_2 ∧ af (bi.l0 kq a0 (a0.size : Int) x21_2 = some r) ∧ af (kq ≤ kj1) ∧ aK w w')
   case atStart => exact ⟨(0), sr_, H', ⟨Nat.le_refl _⟩, by repeat (first | exact aK.refl _ | apply aK.step)⟩
   case round =>
    clear H'; (try clear c11); obtain ⟨x21_2, rfl, HA, HK2, ⟨m2, rfl⟩⟩ := hrel; obtain _ | k2 := gk
    · exact absurd HA.1 (by simp [bi.l0])
    have H := HA.1; clear HA; simp only [bi.l0] at H; replace H := (sd_ H).symm; obtain ⟨c12b0, H⟩ | ⟨c12b0, H⟩ := H
    ·
     replace H := sp_ H; obtain ⟨c21, H⟩ | ⟨c21, H⟩ := H
     ·
      have c21b0 := decide_eq_true c21; have c21b1 : decide (40 < a0.size) = true := decide_eq_true (by omega); clear c21; obtain rfl := Option.some.inj H
      go_wp2
      go_ret
      exact ⟨by first | rfl | (simp; done) | (simp [*]; done) | (simp <;> rfl), by repeat (first | exact aK.refl _ | apply aK.step)⟩
     have c21b0 := decide_eq_false c21; have c21b1 : decide (40 < a0.size) = false := decide_eq_false (by omega); clear c21; obtain rfl := Option.some.inj H
     go_wp2
     go_ret
     exact ⟨by first | rfl | (simp; done) | (simp [*]; done) | (simp <;> rfl), by repeat (first | exact aK.refl _ | apply aK.step)⟩
    replace H := gd_ H; obtain ⟨c13b0, H⟩ := H; replace H := gd_ H; obtain ⟨c14b0, H⟩ := H; replace H := sd_ H; obtain ⟨c16b0, H⟩ | ⟨c16b0, H⟩ := H
    ·
     obtain rfl := Option.some.inj H; have p15 : (0 ≤ (x21_2 : Int)) = True := dT_; have q15 : (x21_2 < (a0.size : Int)) = True := dT_; have hx15 := bS a0 x21_2
     go_wp2
     go_ret
     exact ⟨by first | rfl | (simp; done) | (simp [*]; done) | (simp <;> rfl), by repeat (first | exact aK.refl _ | apply aK.step)⟩
    replace H := sd_ H; obtain ⟨c18b0, H⟩ | ⟨c18b0, H⟩ := H
    ·
     obtain rfl := Option.some.inj H; have p15 : (0 ≤ (x21_2 : Int)) = True := dT_; have q15 : (x21_2 < (a0.size : Int)) = True := dT_; have hx15 := bS a0 x21_2; have p17 : (0 ≤ (x21_2 : Int)) = True := dT_; have q17 : (x21_2 < (a0.size : Int)) = True := dT_; have hx17 := bS a0 x21_2
     go_wp2
     go_ret
     exact ⟨by first | rfl | (simp; done) | (simp [*]; done) | (simp <;> rfl), by repeat (first | exact aK.refl _ | apply aK.step)⟩
    replace H := sp_ H; obtain ⟨c20, H⟩ | ⟨c20, H⟩ := H
    ·
     have c20b0 := beq_iff_eq.mpr c20; have c20b1 := bne_eq_false_iff_eq.mpr c20; clear c20; obtain rfl := Option.some.inj H; have p15 : (0 ≤ (x21_2 : Int)) = True := dT_; have q15 : (x21_2 < (a0.size : Int)) = True := dT_; have hx15 := bS a0 x21_2; have p17 : (0 ≤ (x21_2 : Int)) = True := dT_; have q17 : (x21_2 < (a0.size : Int)) = True := dT_; have hx17 := bS a0 x21_2; have p19 : (0 ≤ (x21_2 : Int)) = True := dT_; have q19 : (x21_2 < (a0.size : Int)) = True := dT_; have hx19 := bS a0 x21_2
     go_wp2
     go_ret
     exact ⟨by first | rfl | (simp; done) | (simp [*]; done) | (simp <;> rfl), by repeat (first | exact aK.refl _ | apply aK.step)⟩
    have c20b0 := beq_eq_false_iff_ne.mpr c20; have c20b1 := bne_iff_ne.mpr c20; have H' := af.mk H; clear H; have p15 : (0 ≤ (x21_2 : Int)) = True := dT_; have q15 : (x21_2 < (a0.size : Int)) = True := dT_; have hx15 := bS a0 x21_2; have p17 : (0 ≤ (x21_2 : Int)) = True := dT_; have q17 : (x21_2 < (a0.size : Int)) = True := dT_; have hx17 := bS a0 x21_2; have p19 : (0 ≤ (x21_2 : Int)) = True := dT_; have q19 : (x21_2 < (a0.size : Int)) = True := dT_; have hx19 := bS a0 x21_2
    go_wp2
    go_roundg k2
    case measure => have := HJ1.1; have := HK2.1; omega
    case rel => exact ⟨(wrap64 (x21_2 + 1)), sr_, H', ⟨by have := HJ1.1; have := HK2.1; omega⟩, by repeat (first | exact aK.refl _ | apply aK.step)⟩
def bT.l0 : Nat → ByteArray → Int → Int → Option (Int × ByteArray × Int × Int × Int × Int)
 | 0, _, _, _ => none
 | k + 1, x0, x1, x7 => if x7 < (x0.size : Int) then (if 0 ≤ x7 then (if (bt x0 x7) = 34 then (if x7 = (x0.size : Int) then (some (0, (⟨#[]⟩ : ByteArray), 0, 0, 0, 2)) else (if (bt x0 x7) = 10 then (some (0, (⟨#[]⟩ : ByteArray), 0, 0, 0, 2)) else (if 0 ≤ (wrap64 (x1 + 1)) then (if (wrap64 (x1 + 1)) ≤ x7 then (if x7 ≤ (x0.size : Int) then ((bi.f k (x0.extract ((wrap64 (x1 + 1)) : Int).toNat (x7 : Int).toNat)).bind fun t117 => (some (3, x0.extract ((wrap64 (x1 + 1)) : Int).toNat (x7 : Int).toNat, 0, 0, wrap64 (x7 + 1), t117))) else (none)) else (none)) else (none)))) else (if (bt x0 x7) = 10 then (if x7 = (x0.size : Int) then (some (0, (⟨#[]⟩ : ByteArray), 0, 0, 0, 2)) else (some (0, (⟨#[]⟩ : ByteArray), 0, 0, 0, 2))) else (bT.l0 k x0 x1 (wrap64 (x7 + 1))))) else (none)) else (if x7 = (x0.size : Int) then (some (0, (⟨#[]⟩ : ByteArray), 0, 0, 0, 2)) else (if 0 ≤ x7 then (none) else (none)))
def bT.f (k : Nat) (a0 : ByteArray) (a1 : Int) : Option (Int × ByteArray × Int × Int × Int × Int) := bT.l0 k a0 a1 (wrap64 (a1 + 1))
theorem bT.mono_l : ∀ k, (∀ y0 y1 y2, LeO (bT.l0 k y0 y1 y2) (bT.l0 (k + 1) y0 y1 y2))
 | 0 => fun _ _ _ r h => by simp [bT.l0] at h
 | k + 1 => by
  have ih0 := bT.mono_l k
  ·
   intro y0 y1 y2
   unfold bT.l0
   repeat' first
   | (with_reducible exact LeO.refl _)
   | exact ih0 _ _ _
   | exact bi.mono _ _
   | exact LeO.none _
   | refine LeO.ite ?_ ?_
   | refine LeO.bind ?_ (fun _ => ?_)
theorem bT.mono : ∀ a0 a1 k, LeO (bT.f k a0 a1) (bT.f (k + 1) a0 a1) := by
 intro a0 a1 k
 have ih0 := bT.mono_l k
 unfold bT.f
 repeat' first
   | (with_reducible exact LeO.refl _)
   | exact ih0 _ _ _
   | exact bi.mono _ _
   | exact LeO.none _
   | refine LeO.ite ?_ ?_
   | refine LeO.bind ?_ (fun _ => ?_)
theorem bT.calls (k : Nat) (a0 : ByteArray) (a1 : Int) (r1 : Int) (r2 : ByteArray) (r3 : Int) (r4 : Int) (r5 : Int) (r6 : Int) (w : World) (h : bT.f k a0 a1 = some (r1, r2, r3, r4, r5, r6)) :
  Calls Tryz.prog 88 #[.string a0, .int .i64 a1] w fun e w' => e = .returned (.tuple #[.agg #[.int .i64 r1, .string r2, .int .i64 r3, .int .i64 r4], .int .i64 r5, .int .i64 r6]) ∧ Below w.heap.size w w' := by
 have hu46 := Tryz.underlying50; have HB := af.mk (Below.refl w.heap.size w); have H : (bT.l0 k a0 a1 (wrap64 (a1 + 1))) = some (r1, r2, r3, r4, r5, r6) := h; clear h; have H' := af.mk H; clear H
 go_enter Tryz.func88, Tryz.ntmps88
 go_wp2_with (first | ((with_reducible refine aA (N := 4) rfl ?_); refine bx_ (N := 4) (cs := #[.int .i64 0, .string (⟨#[]⟩ : ByteArray), .int .i64 0, .int .i64 0]) (t := 50) ?_; intro gb116 hg w3 hbox hb; refine df (ah (bl_ HB.1) hb) (hbox) (bz_ (w := w) hg (bl_ HB.1)) (bz_ (w := w) hg (bl_ HB.1)) ?_; clear HB; intro HB BK116 GW116 GE116; clear hb hbox hg))
 go_loopg [7] k (fun kq v7 w' => ∃ (x7_1 : Int), v7 = .int .i64 x7_1 ∧ af (bT.l0 kq a0 a1 x7_1 = some (r1, r2, r3, r4, r5, r6)) ∧ af (kq ≤ k) ∧ af (w'.heap[gb116]? = some (.cells #[.int .i64 0, .string (⟨#[]⟩ : ByteArray), .int .i64 0, .int .i64 0] 50 (0, 0))) ∧ af (Below w.heap.size w w'))
 case atStart => exact ⟨(wrap64 (a1 + 1)), sr_, H', ⟨Nat.le_refl _⟩, ⟨bk_ BK116.1⟩, ⟨bl1_ HB.1 GE116.1⟩⟩
 case round =>
  clear H'; obtain ⟨x7_1, rfl, HA, HK1, BK116, HB⟩ := hrel; obtain _ | k1 := gk
  · exact absurd HA.1 (by simp [bT.l0])
  have H := HA.1; clear HA; simp only [bT.l0] at H; replace H := (sd_ H).symm; obtain ⟨c4b0, H⟩ | ⟨c4b0, H⟩ := H
  ·
   replace H := (sp_ H).symm; obtain ⟨c25, H⟩ | ⟨c25, H⟩ := H
   ·
    have c25b0 := beq_eq_false_iff_ne.mpr c25; have c25b1 := bne_iff_ne.mpr c25; replace H := gp_ H; obtain ⟨c27, H⟩ := H; exact absurd H (by simp)
   have c25b0 := beq_iff_eq.mpr c25; have c25b1 := bne_eq_false_iff_eq.mpr c25; clear c25; simp only [Option.some.injEq, Prod.mk.injEq] at H; obtain ⟨rfl, rfl, rfl, rfl, rfl, rfl⟩ := H; obtain ⟨hcz26_0, hcz26_1, hcz26_2, hcz26_3, hfz26_0, hfz26_1, hfz26_2, hfz26_3⟩ := cq4_ BK116.1
   go_wp2
   refine bodyPost_ret (dz rfl _ _ gb116 50 #[.int .i64 0, .string (⟨#[]⟩ : ByteArray), .int .i64 0, .int .i64 0] (0, 0) _ rfl (by exact dK (bk_ BK116.1)) Tryz.underlying50 rfl (by kernel_rfl)) rfl ?_; exact ⟨er_, bl1_ HB.1 GE116.1⟩
  replace H := gd_ H; obtain ⟨c5b0, H⟩ := H; replace H := (sp_ H).symm; obtain ⟨c7, H⟩ | ⟨c7, H⟩ := H
  ·
   have c7b0 := beq_eq_false_iff_ne.mpr c7; have c7b1 := bne_iff_ne.mpr c7; replace H := (sp_ H).symm; obtain ⟨c20, H⟩ | ⟨c20, H⟩ := H
   ·
    have c20b0 := beq_eq_false_iff_ne.mpr c20; have c20b1 := bne_iff_ne.mpr c20; have H' := af.mk H; clear H; have p6 : (0 ≤ (x7_1 : Int)) = True := dT_; have q6 : (x7_1 < (a0.size : Int)) = True := dT_; have hx6 := bS a0 x7_1; have p19 : (0 ≤ (x7_1 : Int)) = True := dT_; have q19 : (x7_1 < (a0.size : Int)) = True := dT_; have hx19 := bS a0 x7_1
    go_wp2
    go_roundg k1
    case measure => have := HK1.1; omega
    case rel => exact ⟨(wrap64 (x7_1 + 1)), sr_, H', ⟨om_ HK1.1⟩, ⟨bk_ BK116.1⟩, ⟨bl1_ HB.1 GE116.1⟩⟩
   have c20b0 := beq_iff_eq.mpr c20; have c20b1 := bne_eq_false_iff_eq.mpr c20; clear c20; replace H := sp_ H; obtain ⟨c21, H⟩ | ⟨c21, H⟩ := H
   ·
    have c21b0 := beq_iff_eq.mpr c21; have c21b1 := bne_eq_false_iff_eq.mpr c21; clear c21; simp only [Option.some.injEq, Prod.mk.injEq] at H; obtain ⟨rfl, rfl, rfl, rfl, rfl, rfl⟩ := H; have p6 : (0 ≤ (x7_1 : Int)) = True := dT_; have q6 : (x7_1 < (a0.size : Int)) = True := dT_; have hx6 := bS a0 x7_1; have p19 : (0 ≤ (x7_1 : Int)) = True := dT_; have q19 : (x7_1 < (a0.size : Int)) = True := dT_; have hx19 := bS a0 x7_1; obtain ⟨hcz22_0, hcz22_1, hcz22_2, hcz22_3, hfz22_0, hfz22_1, hfz22_2, hfz22_3⟩ := cq4_ BK116.1
    go_wp2
    refine bodyPost_ret (dz rfl _ _ gb116 50 #[.int .i64 0, .string (⟨#[]⟩ : ByteArray), .int .i64 0, .int .i64 0] (0, 0) _ rfl (by exact dK (bk_ BK116.1)) Tryz.underlying50 rfl (by kernel_rfl)) rfl ?_; exact ⟨er_, bl1_ HB.1 GE116.1⟩
   have c21b0 := beq_eq_false_iff_ne.mpr c21; have c21b1 := bne_iff_ne.mpr c21; simp only [Option.some.injEq, Prod.mk.injEq] at H; obtain ⟨rfl, rfl, rfl, rfl, rfl, rfl⟩ := H; have p6 : (0 ≤ (x7_1 : Int)) = True := dT_; have q6 : (x7_1 < (a0.size : Int)) = True := dT_; have hx6 := bS a0 x7_1; have p19 : (0 ≤ (x7_1 : Int)) = True := dT_; have q19 : (x7_1 < (a0.size : Int)) = True := dT_; have hx19 := bS a0 x7_1; have p23 : (0 ≤ (x7_1 : Int)) = True := dT_; have q23 : (x7_1 < (a0.size : Int)) = True := dT_; have hx23 := bS a0 x7_1; obtain ⟨hcz24_0, hcz24_1, hcz24_2, hcz24_3, hfz24_0, hfz24_1, hfz24_2, hfz24_3⟩ := cq4_ BK116.1
   go_wp2
   refine bodyPost_ret (dz rfl _ _ gb116 50 #[.int .i64 0, .string (⟨#[]⟩ : ByteArray), .int .i64 0, .int .i64 0] (0, 0) _ rfl (by exact dK (bk_ BK116.1)) Tryz.underlying50 rfl (by kernel_rfl)) rfl ?_; exact ⟨er_, bl1_ HB.1 GE116.1⟩
  have c7b0 := beq_iff_eq.mpr c7; have c7b1 := bne_eq_false_iff_eq.mpr c7; clear c7; replace H := sp_ H; obtain ⟨c8, H⟩ | ⟨c8, H⟩ := H
  ·
   have c8b0 := beq_iff_eq.mpr c8; have c8b1 := bne_eq_false_iff_eq.mpr c8; clear c8; simp only [Option.some.injEq, Prod.mk.injEq] at H; obtain ⟨rfl, rfl, rfl, rfl, rfl, rfl⟩ := H; have p6 : (0 ≤ (x7_1 : Int)) = True := dT_; have q6 : (x7_1 < (a0.size : Int)) = True := dT_; have hx6 := bS a0 x7_1; obtain ⟨hcz9_0, hcz9_1, hcz9_2, hcz9_3, hfz9_0, hfz9_1, hfz9_2, hfz9_3⟩ := cq4_ BK116.1
   go_wp2
   refine bodyPost_ret (dz rfl _ _ gb116 50 #[.int .i64 0, .string (⟨#[]⟩ : ByteArray), .int .i64 0, .int .i64 0] (0, 0) _ rfl (by exact dK (bk_ BK116.1)) Tryz.underlying50 rfl (by kernel_rfl)) rfl ?_; exact ⟨er_, bl1_ HB.1 GE116.1⟩
  have c8b0 := beq_eq_false_iff_ne.mpr c8; have c8b1 := bne_iff_ne.mpr c8; replace H := sp_ H; obtain ⟨c11, H⟩ | ⟨c11, H⟩ := H
  ·
   have c11b0 := beq_iff_eq.mpr c11; have c11b1 := bne_eq_false_iff_eq.mpr c11; clear c11; simp only [Option.some.injEq, Prod.mk.injEq] at H; obtain ⟨rfl, rfl, rfl, rfl, rfl, rfl⟩ := H; have p6 : (0 ≤ (x7_1 : Int)) = True := dT_; have q6 : (x7_1 < (a0.size : Int)) = True := dT_; have hx6 := bS a0 x7_1; have p10 : (0 ≤ (x7_1 : Int)) = True := dT_; have q10 : (x7_1 < (a0.size : Int)) = True := dT_; have hx10 := bS a0 x7_1; obtain ⟨hcz12_0, hcz12_1, hcz12_2, hcz12_3, hfz12_0, hfz12_1, hfz12_2, hfz12_3⟩ := cq4_ BK116.1
   go_wp2
   refine bodyPost_ret (dz rfl _ _ gb116 50 #[.int .i64 0, .string (⟨#[]⟩ : ByteArray), .int .i64 0, .int .i64 0] (0, 0) _ rfl (by exact dK (bk_ BK116.1)) Tryz.underlying50 rfl (by kernel_rfl)) rfl ?_; exact ⟨er_, bl1_ HB.1 GE116.1⟩
  have c11b0 := beq_eq_false_iff_ne.mpr c11; have c11b1 := bne_iff_ne.mpr c11; obtain ⟨ji13, hji13⟩ : ∃ j_ : Int, (wrap64 (a1 + 1)) = j_ := ⟨_, rfl⟩; replace H : (if 0 ≤ (ji13) then (if (ji13) ≤ x7_1 then (if x7_1 ≤ (a0.size : Int) then ((bi.f k1 (a0.extract ((ji13) : Int).toNat (x7_1 : Int).toNat)).bind fun t117 => (some (3, a0.extract ((ji13) : Int).toNat (x7_1 : Int).toNat, 0, 0, wrap64 (x7_1 + 1), t117))) else (none)) else (none)) else (none)) = some (r1, r2, r3, r4, r5, r6) := by first | (rw [hji13] at H; exact H) | (simp only [hji13] at H ⊢; exact H)
  have hji13w : (IntKind.i64.wrap (a1 + 1)) = ji13 := (cz _).trans hji13; replace H := gt_ H; obtain ⟨c14b0, c14b1, H⟩ := H; replace H := gt_ H; obtain ⟨c15b0, c15b1, H⟩ := H; replace H := gt_ H; obtain ⟨c16b0, c16b1, H⟩ := H; replace H := bn_ H; obtain ⟨t117, A17, H⟩ := H; (try dsimp only at H); simp only [Option.some.injEq, Prod.mk.injEq] at H; obtain ⟨rfl, rfl, rfl, rfl, rfl, rfl⟩ := H; have p6 : (0 ≤ (x7_1 : Int)) = True := dT_; have q6 : (x7_1 < (a0.size : Int)) = True := dT_; have hx6 := bS a0 x7_1; have p10 : (0 ≤ (x7_1 : Int)) = True := dT_; have q10 : (x7_1 < (a0.size : Int)) = True := dT_; have hx10 := bS a0 x7_1
  go_wp2_with (first | ((with_reducible refine aj (f := 71) rfl ?_); refine dW (some 50) rfl rfl Tryz.func71 (by kernel_rfl) rfl #[.string (a0.extract ((ji13) : Int).toNat (x7_1 : Int).toNat)] rfl (by (try simp only [List.map_toArray, List.map_cons, List.map_nil]); first | done | (simp only [hji13]; rfl) | rfl | (simp only [List.length_drop, List.length_take]; rfl)) ?_; (with_reducible refine (bi.calls k1 (a0.extract ((ji13) : Int).toNat (x7_1 : Int).toNat) t117 _ A17.1).mono ?_); rintro e w' ⟨rfl, ⟨nd, rfl⟩⟩; refine ⟨_, rfl, ?_⟩; (try (rw [dh wr]; generalize hq_ : World.drewN wr _ = wr; have n0_ := af.mk (bw_ hq_.symm (bk_ BK116.1)); have n1_ := af.mk (bW_ hq_.symm (bl1_ HB.1 GE116.1)); clear BK116 HB hq_; have BK116 := n0_; have HB := n1_; clear n0_ n1_)); obtain ⟨hcz18_0, hcz18_1, hcz18_2, hcz18_3, hfz18_0, hfz18_1, hfz18_2, hfz18_3⟩ := cq4_ BK116.1))
  refine bodyPost_ret (dz rfl _ _ gb116 50 #[.int .i64 3, .string (a0.extract ((ji13) : Int).toNat (x7_1 : Int).toNat), .int .i64 0, .int .i64 0] (0, 0) _ rfl (by exact dK (bk_ BK116.1)) Tryz.underlying50 rfl (by kernel_rfl)) rfl ?_; exact ⟨by first | rfl | (simp [eu, ek] <;> rfl) | (simp only [← hji13]; first | rfl | (simp [eu, ek] <;> rfl)) | (simp [*, eu, ek] <;> rfl), bl1_ HB.1 GE116.1⟩
mutual
def bf.j2 : Nat → Int → Int → Int → Int → ByteArray → Int → Int → Option (Int × ByteArray × Int × Int × Int × Int × Int)
 | 0, _, _, _, _, _, _, _ => none
 | k + 1, x1, x8, x9, x122000, x122001, x122002, x122003 => if x9 = 0 then (some (x122000, x122001, x122002, x1, x8, 0, 0)) else (some (0, (⟨#[]⟩ : ByteArray), 0, 0, 0, x9, x1))
def bf.j1 : Nat → ByteArray → Int → Int → Option (Int × ByteArray × Int × Int × Int × Int × Int)
 | 0, _, _, _ => none
 | k + 1, x0, x1, x8 => if 0 ≤ x1 then (if x1 ≤ x8 then (if x8 ≤ (x0.size : Int) then ((fE.f k (x0.extract (x1 : Int).toNat (x8 : Int).toNat)).bind fun bt124 => (bf.j2 k x1 x8 bt124.2.2.2.2 bt124.1 bt124.2.1 bt124.2.2.1 bt124.2.2.2.1)) else (none)) else (none)) else (none)
def bf.l0 : Nat → ByteArray → Int → Int → Option (Int × ByteArray × Int × Int × Int × Int × Int)
 | 0, _, _, _ => none
 | k + 1, x0, x1, x8 => if x8 < (x0.size : Int) then (if 0 ≤ x8 then ((dE.f (bt x0 x8)).bind fun t123 => (if t123 = true then (bf.l0 k x0 x1 (wrap64 (x8 + 1))) else (bf.j1 k x0 x1 x8))) else (none)) else (bf.j1 k x0 x1 x8)
end
def bf.f (k : Nat) (a0 : ByteArray) (a1 : Int) : Option (Int × ByteArray × Int × Int × Int × Int × Int) := (bv.f k a0 a1).bind fun t120 => (if t120 = (a0.size : Int) then (some (5, (⟨#[]⟩ : ByteArray), 0, t120, t120, 0, 0)) else (if 0 ≤ t120 then (if t120 < (a0.size : Int) then ((dE.f (bt a0 t120)).bind fun t122 => (if t122 = true then (bf.l0 k a0 t120 (wrap64 (t120 + 1))) else (if (bt a0 t120) = 34 then ((bT.f k a0 t120).bind fun bt129 => (bf.j2 k t120 bt129.2.2.2.2.1 bt129.2.2.2.2.2 bt129.1 bt129.2.1 bt129.2.2.1 bt129.2.2.2.1)) else ((aR.f).bind fun t135 => (if 0 ≤ (bt a0 t120) then (if (bt a0 t120) < 256 then (if (aR.at_ (bt a0 t120)) = 5 then (if t120 ≤ (wrap64 (t120 + 1)) then (if (wrap64 (t120 + 1)) ≤ (a0.size : Int) then (bf.j2 k t120 (wrap64 (t120 + 1)) 0 4 (a0.extract (t120 : Int).toNat ((wrap64 (t120 + 1)) : Int).toNat) 0 0) else (none)) else (none)) else (bf.j2 k t120 (wrap64 (t120 + 1)) 2 0 (⟨#[]⟩ : ByteArray) 0 0)) else (none)) else (none)))))) else (none)) else (none)))
theorem bf.mono_l : ∀ k, (∀ y0 y1 y2 y3 y4 y5 y6, LeO (bf.j2 k y0 y1 y2 y3 y4 y5 y6) (bf.j2 (k + 1) y0 y1 y2 y3 y4 y5 y6)) ∧ (∀ y0 y1 y2, LeO (bf.j1 k y0 y1 y2) (bf.j1 (k + 1) y0 y1 y2)) ∧ (∀ y0 y1 y2, LeO (bf.l0 k y0 y1 y2) (bf.l0 (k + 1) y0 y1 y2))
 | 0 => ⟨fun _ _ _ _ _ _ _ r h => by simp [bf.j2] at h, fun _ _ _ r h => by simp [bf.j1] at h, fun _ _ _ r h => by simp [bf.l0] at h⟩
 | k + 1 => by
  obtain ⟨ih0, ih1, ih2⟩ := bf.mono_l k
  refine ⟨?_, ?_, ?_⟩
  ·
   intro y0 y1 y2 y3 y4 y5 y6
   unfold bf.j2
   repeat' first
   | (with_reducible exact LeO.refl _)
   | exact ih0 _ _ _ _ _ _ _
   | exact ih1 _ _ _
   | exact ih2 _ _ _
   | exact fE.mono _ _
   | exact bv.mono _ _ _
   | exact bT.mono _ _ _
   | exact LeO.none _
   | refine LeO.ite ?_ ?_
   | refine LeO.bind ?_ (fun _ => ?_)
  ·
   intro y0 y1 y2
   unfold bf.j1
   repeat' first
   | (with_reducible exact LeO.refl _)
   | exact ih0 _ _ _ _ _ _ _
   | exact ih1 _ _ _
   | exact ih2 _ _ _
   | exact fE.mono _ _
   | exact bv.mono _ _ _
   | exact bT.mono _ _ _
   | exact LeO.none _
   | refine LeO.ite ?_ ?_
   | refine LeO.bind ?_ (fun _ => ?_)
  ·
   intro y0 y1 y2
   unfold bf.l0
   repeat' first
   | (with_reducible exact LeO.refl _)
   | exact ih0 _ _ _ _ _ _ _
   | exact ih1 _ _ _
   | exact ih2 _ _ _
   | exact fE.mono _ _
   | exact bv.mono _ _ _
   | exact bT.mono _ _ _
   | exact LeO.none _
   | refine LeO.ite ?_ ?_
   | refine LeO.bind ?_ (fun _ => ?_)
theorem bf.mono : ∀ a0 a1 k, LeO (bf.f k a0 a1) (bf.f (k + 1) a0 a1) := by
 intro a0 a1 k
 obtain ⟨ih0, ih1, ih2⟩ := bf.mono_l k
 unfold bf.f
 repeat' first
   | (with_reducible exact LeO.refl _)
   | exact ih0 _ _ _ _ _ _ _
   | exact ih1 _ _ _
   | exact ih2 _ _ _
   | exact fE.mono _ _
   | exact bv.mono _ _ _
   | exact bT.mono _ _ _
   | exact LeO.none _
   | refine LeO.ite ?_ ?_
   | refine LeO.bind ?_ (fun _ => ?_)
theorem bf.calls (k : Nat) (a0 : ByteArray) (a1 : Int) (r1 : Int) (r2 : ByteArray) (r3 : Int) (r4 : Int) (r5 : Int) (r6 : Int) (r7 : Int) (w : World) (h : bf.f k a0 a1 = some (r1, r2, r3, r4, r5, r6, r7)) :
  Calls Tryz.prog 66 #[.string a0, .int .i64 a1] w fun e w' => e = .returned (.tuple #[.agg #[.int .i64 r1, .string r2, .int .i64 r3, .int .i64 r4], .int .i64 r5, .agg #[.int .i64 r6, .int .i64 r7]]) ∧ Below w.heap.size w w' := by
 have hu46 := Tryz.underlying50; have hu26 := Tryz.underlying40; have HB := af.mk (Below.refl w.heap.size w); have H : ((bv.f k a0 a1).bind fun t120 => (if t120 = (a0.size : Int) then (some (5, (⟨#[]⟩ : ByteArray), 0, t120, t120, 0, 0)) else (if 0 ≤ t120 then (if t120 < (a0.size : Int) then ((dE.f (bt a0 t120)).bind fun t122 => (if t122 = true then (bf.l0 k a0 t120 (wrap64 (t120 + 1))) else (if (bt a0 t120) = 34 then ((bT.f k a0 t120).bind fun bt129 => (bf.j2 k t120 bt129.2.2.2.2.1 bt129.2.2.2.2.2 bt129.1 bt129.2.1 bt129.2.2.1 bt129.2.2.2.1)) else ((aR.f).bind fun t135 => (if 0 ≤ (bt a0 t120) then (if (bt a0 t120) < 256 then (if (aR.at_ (bt a0 t120)) = 5 then (if t120 ≤ (wrap64 (t120 + 1)) then (if (wrap64 (t120 + 1)) ≤ (a0.size : Int) then (bf.j2 k t120 (wrap64 (t120 + 1)) 0 4 (a0.extract (t120 : Int).toNat ((wrap64 (t120 + 1)) : Int).toNat) 0 0) else (none)) else (none)) else (bf.j2 k t120 (wrap64 (t120 + 1)) 2 0 (⟨#[]⟩ : ByteArray) 0 0)) else (none)) else (none)))))) else (none)) else (none)))) = some (r1, r2, r3, r4, r5, r6, r7) := h; clear h; replace H := bn_ H; obtain ⟨t120, A3, H⟩ := H; (try dsimp only at H); replace H := sp_ H; obtain ⟨c4, H⟩ | ⟨c4, H⟩ := H
 ·
  have c4b0 := beq_iff_eq.mpr c4; have c4b1 := bne_eq_false_iff_eq.mpr c4; clear c4; simp only [Option.some.injEq, Prod.mk.injEq] at H; obtain ⟨rfl, rfl, rfl, rfl, rfl, rfl, rfl⟩ := H
  go_enter Tryz.func66, Tryz.ntmps66
  go_wp2_with (first | ((with_reducible refine aA (N := 4) rfl ?_); refine bx_ (N := 4) (cs := #[.int .i64 0, .string (⟨#[]⟩ : ByteArray), .int .i64 0, .int .i64 0]) (t := 50) ?_; intro gb118 hg w5 hbox hb; refine df (ah (bl_ HB.1) hb) (hbox) (bz_ (w := w) hg (bl_ HB.1)) (bz_ (w := w) hg (bl_ HB.1)) ?_; clear HB; intro HB BK118 GW118 GE118; clear hb hbox hg) | ((with_reducible refine aA (N := 6) rfl ?_); refine bx_ (N := 6) (cs := #[.int .i64 0, .int .i64 0]) (t := 40) ?_; intro gb119 hg w6 hbox hb; refine gH (bb_ BK118.1 hb) (ah (bl1_ HB.1 GE118.1) hb) (hbox) (bz_ (w := w) hg (bl1_ HB.1 GE118.1)) (bz_ (w := w) hg (bl1_ HB.1 GE118.1)) (nl_ hg BK118.1) (ng_ hg BK118.1) ?_; clear BK118 HB; intro BK118 HB BK119 GW119 GE119 NB118_119 NB119_118; clear hb hbox hg) | ((with_reducible refine aj (f := 85) rfl ?_); refine gk_ (some 13) Tryz.func85 (bv.calls k a0 a1 t120 _ A3.1) ?_; rintro e w7 ⟨rfl, hb⟩; refine ⟨_, rfl, ?_⟩; refine fu (bb_ BK118.1 hb) (bb_ BK119.1 hb) (ah (bl2_ HB.1 GE118.1 GE119.1) hb) ?_; clear hb BK118 BK119 HB; intro BK118 BK119 HB; have hnb8 := NB118_119.1; have hnc8 := NB119_118.1; obtain ⟨hcz9_0, hcz9_1, hcz9_2, hcz9_3, hfz9_0, hfz9_1, hfz9_2, hfz9_3⟩ := cq4_ BK118.1; obtain ⟨hcz10_0, hcz10_1, hfz10_0, hfz10_1⟩ := cq2_ BK119.1))
  refine bodyPost_ret (dO (rs := [.cell 4 50, .tmp 5, .cell 6 40]) rfl (by simp) (.cell gb118 50 #[.int .i64 5, .string (⟨#[]⟩ : ByteArray), .int .i64 0, .int .i64 t120] (0, 0) _ rfl (by exact dC (dK (bk_ BK118.1)) NB118_119.1) Tryz.underlying50 rfl (by kernel_rfl) (.tmp (.cell gb119 40 #[.int .i64 0, .int .i64 0] (0, 0) _ rfl (by refine aU (cs := #[.int .i64 0, .int .i64 0]) ?_ 1 _ rfl; refine aU (cs := #[.int .i64 0, .int .i64 0]) ?_ 0 _ rfl; exact eX (bk_ BK119.1) NB119_118.1) Tryz.underlying40 rfl (by kernel_rfl) .nil)))) rfl ?_; exact ⟨er_, bl2_ HB.1 GE118.1 GE119.1⟩
 have c4b0 := beq_eq_false_iff_ne.mpr c4; have c4b1 := bne_iff_ne.mpr c4; replace H := gd_ H; obtain ⟨c11b0, H⟩ := H; replace H := gd_ H; obtain ⟨c12b0, H⟩ := H; have HC14 := af.mk H; clear H
 go_enter Tryz.func66, Tryz.ntmps66
 go_upto_block 0 with (first | ((with_reducible refine aA (N := 4) rfl ?_); refine bx_ (N := 4) (cs := #[.int .i64 0, .string (⟨#[]⟩ : ByteArray), .int .i64 0, .int .i64 0]) (t := 50) ?_; intro gb118 hg w15 hbox hb; have n0_ := af.mk (ah (bl_ HB.1) hb); have n1_ := af.mk (hbox); have n2_ := af.mk (bz_ (w := w) hg (bl_ HB.1)); have n3_ := af.mk (bz_ (w := w) hg (bl_ HB.1)); clear HB; have HB := n0_; have BK118 := n1_; have GW118 := n2_; have GE118 := n3_; clear n0_ n1_ n2_ n3_; clear hb hbox hg) | ((with_reducible refine aA (N := 6) rfl ?_); refine bx_ (N := 6) (cs := #[.int .i64 0, .int .i64 0]) (t := 40) ?_; intro gb119 hg w16 hbox hb; have n0_ := af.mk (bb_ BK118.1 hb); have n1_ := af.mk (ah (bl1_ HB.1 GE118.1) hb); have n2_ := af.mk (hbox); have n3_ := af.mk (bz_ (w := w) hg (bl1_ HB.1 GE118.1)); have n4_ := af.mk (bz_ (w := w) hg (bl1_ HB.1 GE118.1)); have n5_ := af.mk (nl_ hg BK118.1); have n6_ := af.mk (ng_ hg BK118.1); clear BK118; clear HB; have BK118 := n0_; have HB := n1_; have BK119 := n2_; have GW119 := n3_; have GE119 := n4_; have NB118_119 := n5_; have NB119_118 := n6_; clear n0_ n1_ n2_ n3_ n4_ n5_ n6_; clear hb hbox hg) | ((with_reducible refine aj (f := 85) rfl ?_); refine gk_ (some 13) Tryz.func85 (bv.calls k a0 a1 t120 _ A3.1) ?_; rintro e w17 ⟨rfl, hb⟩; refine ⟨_, rfl, ?_⟩; have n0_ := af.mk (bb_ BK118.1 hb); have n1_ := af.mk (bb_ BK119.1 hb); have n2_ := af.mk (ah (bl2_ HB.1 GE118.1 GE119.1) hb); clear BK118; clear BK119; clear HB; have BK118 := n0_; have BK119 := n1_; have HB := n2_; clear n0_ n1_ n2_; (try clear hb); (try clear hb2); (try clear hk); (try clear hi)) | ((with_reducible refine aA (N := 7) rfl ?_); refine bx_ (N := 7) (cs := #[.int .i64 0, .string (⟨#[]⟩ : ByteArray), .int .i64 0, .int .i64 0]) (t := 50) ?_; intro gb121 hg w18 hbox hb; have n0_ := af.mk (bb_ BK118.1 hb); have n1_ := af.mk (bb_ BK119.1 hb); have n2_ := af.mk (ah (bl2_ HB.1 GE118.1 GE119.1) hb); have n3_ := af.mk (hbox); have n4_ := af.mk (bz_ (w := w) hg (bl2_ HB.1 GE118.1 GE119.1)); have n5_ := af.mk (bz_ (w := w) hg (bl2_ HB.1 GE118.1 GE119.1)); have n6_ := af.mk (nl_ hg BK118.1); have n7_ := af.mk (ng_ hg BK118.1); have n8_ := af.mk (nl_ hg BK119.1); have n9_ := af.mk (ng_ hg BK119.1); clear BK118; clear BK119; clear HB; have BK118 := n0_; have BK119 := n1_; have HB := n2_; have BK121 := n3_; have GW121 := n4_; have GE121 := n5_; have NB118_121 := n6_; have NB121_118 := n7_; have NB119_121 := n8_; have NB121_119 := n9_; clear n0_ n1_ n2_ n3_ n4_ n5_ n6_ n7_ n8_ n9_; clear hb hbox hg; have p13 : 0 ≤ (t120 : Int) := dt_; have q13 : t120 < (a0.size : Int) := dt_; have hx13 := bS a0 t120; replace p13 := eq_true p13; replace q13 := eq_true q13))
 (try simp only [Act.put, List.setIfInBounds_toArray, List.set_cons_zero, List.set_cons_succ])
 go_cut [8, 9] (fun v8 v9 wc => ∃ (kq : Nat) (x8_13 : Int) (x9_13 : Int) (x122000_13 : Int) (x122001_13 : ByteArray) (x122002_13 : Int) (x122003_13 : Int), v8 = .int .i64 x8_13 ∧ v9 = .int .i64 x9_13 ∧ af (bf.j2 kq t120 x8_13 x9_13 x122000_13 x122001_13 x122002_13 x122003_13 = some (r1, r2, r3, r4, r5, r6, r7)) ∧ af (kq ≤ k) ∧ af (wc.heap[gb118]? = some (.cells #[.int .i64 0, .string (⟨#[]⟩ : ByteArray), .int .i64 0, .int .i64 0] 50 (0, 0))) ∧ af (wc.heap[gb119]? = some (.cells #[.int .i64 0, .int .i64 0] 40 (0, 0))) ∧ af (wc.heap[gb121]? = some (.cells #[.int .i64 x122000_13, .string x122001_13, .int .i64 x122002_13, .int .i64 x122003_13] 50 (0, 0))) ∧ af (Below w.heap.size w wc))
 case first =>
  have H := HC14.1; clear HC14; replace H := bn_ H; obtain ⟨t122, A19, H⟩ := H; (try dsimp only at H); replace H := (sb_ H).symm; obtain ⟨rfl, H⟩ | ⟨rfl, H⟩ := H
  ·
   replace H := sp_ H; obtain ⟨c38, H⟩ | ⟨c38, H⟩ := H
   ·
    have c38b0 := beq_iff_eq.mpr c38; have c38b1 := bne_eq_false_iff_eq.mpr c38; clear c38; replace H := bn_ H; obtain ⟨⟨t129, t130, t131, t132, t133, t134⟩, A39, H⟩ := H; (try dsimp only at H); have H' := af.mk H; clear H
    go_wp2_with (first | ((with_reducible refine aj (f := 86) rfl ?_); refine gk_ (some 29) Tryz.func86 (dE.calls (bt a0 t120) false _ A19.1) ?_; rintro e w40 ⟨rfl, hb⟩; refine ⟨_, rfl, ?_⟩; refine df (bb_ BK118.1 hb) (bb_ BK119.1 hb) (bb_ BK121.1 hb) (ah (bl3_ HB.1 GE118.1 GE119.1 GE121.1) hb) ?_; clear hb BK118 BK119 BK121 HB; intro BK118 BK119 BK121 HB) | ((with_reducible refine aj (f := 88) rfl ?_); refine gk_ (some 56) Tryz.func88 (bT.calls k a0 t120 t129 t130 t131 t132 t133 t134 _ A39.1) ?_; rintro e w41 ⟨rfl, hb⟩; refine ⟨_, rfl, ?_⟩; refine df (bb_ BK118.1 hb) (bb_ BK119.1 hb) (bb_ BK121.1 hb) (ah (bl3_ HB.1 GE118.1 GE119.1 GE121.1) hb) ?_; clear hb BK118 BK119 BK121 HB; intro BK118 BK119 BK121 HB; have hnb42 := NB121_118.1; have hnc42 := NB118_121.1; have hnb43 := NB121_119.1; have hnc43 := NB119_121.1; obtain ⟨hcz44_0, hcz44_1, hcz44_2, hcz44_3, hfz44_0, hfz44_1, hfz44_2, hfz44_3⟩ := cq4_ BK121.1))
    go_meet
    case rel => exact ⟨_, (t133), (t134), (t129), (t130), (t131), (t132), sr_, sr_, H', ⟨by first | omega | exact Nat.le_refl _⟩, ⟨eX (bk_ BK118.1) NB118_121.1⟩, ⟨eX (bk_ BK119.1) NB119_121.1⟩, ⟨dK (bk_ BK121.1)⟩, ⟨bl3_ HB.1 GE118.1 GE119.1 GE121.1⟩⟩
   have c38b0 := beq_eq_false_iff_ne.mpr c38; have c38b1 := bne_iff_ne.mpr c38; replace H := bn_ H; obtain ⟨t135, A45, H⟩ := H; (try dsimp only at H); replace H := gd_ H; obtain ⟨c46b0, H⟩ := H; replace H := gd_ H; obtain ⟨c47b0, H⟩ := H; replace H := (sp_ H).symm; obtain ⟨c49, H⟩ | ⟨c49, H⟩ := H
   ·
    have c49b0 := beq_eq_false_iff_ne.mpr c49; have c49b1 := bne_iff_ne.mpr c49; have H' := af.mk H; clear H
    go_wp2_with (first | ((with_reducible refine aj (f := 86) rfl ?_); refine gk_ (some 29) Tryz.func86 (dE.calls (bt a0 t120) false _ A19.1) ?_; rintro e w58 ⟨rfl, hb⟩; refine ⟨_, rfl, ?_⟩; refine df (bb_ BK118.1 hb) (bb_ BK119.1 hb) (bb_ BK121.1 hb) (ah (bl3_ HB.1 GE118.1 GE119.1 GE121.1) hb) ?_; clear hb BK118 BK119 BK121 HB; intro BK118 BK119 BK121 HB) | ((with_reducible refine aj (f := 72) rfl ?_); refine gk_ (some 61) Tryz.func72 (aR.calls  t135 _ A45.1) ?_; rintro e w59 ⟨rfl, hb⟩; refine ⟨_, rfl, ?_⟩; refine df (bb_ BK118.1 hb) (bb_ BK119.1 hb) (bb_ BK121.1 hb) (ah (bl3_ HB.1 GE118.1 GE119.1 GE121.1) hb) ?_; clear hb BK118 BK119 BK121 HB; intro BK118 BK119 BK121 HB; have p48 : 0 ≤ ((bt a0 t120) : Int) := dt_; have q48 : ((bt a0 t120) : Int) < 256 := dt_; have hx48 := aR.at_run A45.1 (bt a0 t120) p48 q48; replace p48 := eq_true p48; replace q48 := eq_true q48))
    go_meet
    case rel => exact ⟨_, (wrap64 (t120 + 1)), (2), (0), ((⟨#[]⟩ : ByteArray)), (0), (0), sr_, sr_, H', ⟨by first | omega | exact Nat.le_refl _⟩, ⟨bk_ BK118.1⟩, ⟨bk_ BK119.1⟩, ⟨bk_ BK121.1⟩, ⟨bl3_ HB.1 GE118.1 GE119.1 GE121.1⟩⟩
   have c49b0 := beq_iff_eq.mpr c49; have c49b1 := bne_eq_false_iff_eq.mpr c49; clear c49; have c50b0 := eq_true (dt_ : 0 ≤ t120); replace H := gp_ H; obtain ⟨c51, H⟩ := H; have c51b0 := eq_true c51; have c51b1 := decide_eq_true c51; replace H := gp_ H; obtain ⟨c52, H⟩ := H; have c52b0 := eq_true c52; have c52b1 := decide_eq_true c52; have H' := af.mk H; clear H
   go_wp2_with (first | ((with_reducible refine aj (f := 86) rfl ?_); refine gk_ (some 29) Tryz.func86 (dE.calls (bt a0 t120) false _ A19.1) ?_; rintro e w53 ⟨rfl, hb⟩; refine ⟨_, rfl, ?_⟩; refine df (bb_ BK118.1 hb) (bb_ BK119.1 hb) (bb_ BK121.1 hb) (ah (bl3_ HB.1 GE118.1 GE119.1 GE121.1) hb) ?_; clear hb BK118 BK119 BK121 HB; intro BK118 BK119 BK121 HB) | ((with_reducible refine aj (f := 72) rfl ?_); refine gk_ (some 61) Tryz.func72 (aR.calls  t135 _ A45.1) ?_; rintro e w54 ⟨rfl, hb⟩; refine ⟨_, rfl, ?_⟩; refine df (bb_ BK118.1 hb) (bb_ BK119.1 hb) (bb_ BK121.1 hb) (ah (bl3_ HB.1 GE118.1 GE119.1 GE121.1) hb) ?_; clear hb BK118 BK119 BK121 HB; intro BK118 BK119 BK121 HB; have p48 : 0 ≤ ((bt a0 t120) : Int) := dt_; have q48 : ((bt a0 t120) : Int) < 256 := dt_; have hx48 := aR.at_run A45.1 (bt a0 t120) p48 q48; replace p48 := eq_true p48; replace q48 := eq_true q48; have hnb55 := NB121_118.1; have hnc55 := NB118_121.1; have hnb56 := NB121_119.1; have hnc56 := NB119_121.1; obtain ⟨hcz57_0, hcz57_1, hcz57_2, hcz57_3, hfz57_0, hfz57_1, hfz57_2, hfz57_3⟩ := cq4_ BK121.1))
   go_meet
   case rel => exact ⟨_, (wrap64 (t120 + 1)), (0), (4), (a0.extract (t120 : Int).toNat ((wrap64 (t120 + 1)) : Int).toNat), (0), (0), sr_, sr_, H', ⟨by first | omega | exact Nat.le_refl _⟩, ⟨eX (bk_ BK118.1) NB118_121.1⟩, ⟨eX (bk_ BK119.1) NB119_121.1⟩, ⟨dK (bk_ BK121.1)⟩, ⟨bl3_ HB.1 GE118.1 GE119.1 GE121.1⟩⟩
  have HC21 := af.mk H; clear H
  go_upto_block 1 with (first | ((with_reducible refine aj (f := 86) rfl ?_); refine gk_ (some 29) Tryz.func86 (dE.calls (bt a0 t120) true _ A19.1) ?_; rintro e w22 ⟨rfl, hb⟩; refine ⟨_, rfl, ?_⟩; have n0_ := af.mk (bb_ BK118.1 hb); have n1_ := af.mk (bb_ BK119.1 hb); have n2_ := af.mk (bb_ BK121.1 hb); have n3_ := af.mk (ah (bl3_ HB.1 GE118.1 GE119.1 GE121.1) hb); clear BK118; clear BK119; clear BK121; clear HB; have BK118 := n0_; have BK119 := n1_; have BK121 := n2_; have HB := n3_; clear n0_ n1_ n2_ n3_; (try clear hb); (try clear hb2); (try clear hk); (try clear hi)))
  (try simp only [Act.put, List.setIfInBounds_toArray, List.set_cons_zero, List.set_cons_succ])
  go_cut [8] (fun v8 wc => ∃ (kq : Nat) (x8_20 : Int), v8 = .int .i64 x8_20 ∧ af (bf.j1 kq a0 t120 x8_20 = some (r1, r2, r3, r4, r5, r6, r7)) ∧ af (kq ≤ k) ∧ af (wc.heap[gb118]? = some (.cells #[.int .i64 0, .string (⟨#[]⟩ : ByteArray), .int .i64 0, .int .i64 0] 50 (0, 0))) ∧ af (wc.heap[gb119]? = some (.cells #[.int .i64 0, .int .i64 0] 40 (0, 0))) ∧ af (wc.heap[gb121]? = some (.cells #[.int .i64 0, .string (⟨#[]⟩ : ByteArray), .int .i64 0, .int .i64 0] 50 (0, 0))) ∧ af (Below w.heap.size w wc))
  case first =>
   have H := HC21.1; clear HC21; have H' := af.mk H; clear H
   go_wp2
   go_loopg [8] k (fun kq v8 w' => ∃ (x8_1 : Int), v8 = .int .i64 x8_1 ∧ af (bf.l0 kq a0 t120 x8_1 = some (r1, r2, r3, r4, r5, r6, r7)) ∧ af (kq ≤ k) ∧ af (w'.heap[gb118]? = some (.cells #[.int .i64 0, .string (⟨#[]⟩ : ByteArray), .int .i64 0, .int .i64 0] 50 (0, 0))) ∧ af (w'.heap[gb119]? = some (.cells #[.int .i64 0, .int .i64 0] 40 (0, 0))) ∧ af (w'.heap[gb121]? = some (.cells #[.int .i64 0, .string (⟨#[]⟩ : ByteArray), .int .i64 0, .int .i64 0] 50 (0, 0))) ∧ af (Below w.heap.size w w'))
   case atStart => exact ⟨(wrap64 (t120 + 1)), sr_, H', ⟨Nat.le_refl _⟩, ⟨bk_ BK118.1⟩, ⟨bk_ BK119.1⟩, ⟨bk_ BK121.1⟩, ⟨bl3_ HB.1 GE118.1 GE119.1 GE121.1⟩⟩
   case round =>
    clear H'; (try clear c4); (try clear c4b0); (try clear c4b1); (try clear c11); (try clear c11b0); (try clear c12); (try clear c12b0); (try clear p13); (try clear q13); (try clear hx13); (try clear c20); (try clear p13); (try clear q13); obtain ⟨x8_1, rfl, HA, HK1, BK118, BK119, BK121, HB⟩ := hrel; obtain _ | k1 := gk
    · exact absurd HA.1 (by simp [bf.l0])
    have H := HA.1; clear HA; simp only [bf.l0] at H; replace H := (sd_ H).symm; obtain ⟨c23b0, H⟩ | ⟨c23b0, H⟩ := H
    ·
     (first | rw [c23b0] | (simp only [cz, cK]; rw [c23b0]) | skip)
     have H' := af.mk H; clear H
     go_wp2
     go_meet
     case rel => exact ⟨_, (x8_1), sr_, H', ⟨ol_ HK1.1⟩, ⟨bk_ BK118.1⟩, ⟨bk_ BK119.1⟩, ⟨bk_ BK121.1⟩, ⟨bl3_ HB.1 GE118.1 GE119.1 GE121.1⟩⟩
    (first | rw [c23b0] | (simp only [cz, cK]; rw [c23b0]) | skip)
    replace H := gd_ H; obtain ⟨c24b0, H⟩ := H; replace H := bn_ H; obtain ⟨t123, A26, H⟩ := H; (try dsimp only at H); replace H := sb_ H; obtain ⟨rfl, H⟩ | ⟨rfl, H⟩ := H
    ·
     have H' := af.mk H; clear H; have p25 : (0 ≤ (x8_1 : Int)) = True := dT_; have q25 : (x8_1 < (a0.size : Int)) = True := dT_; have hx25 := bS a0 x8_1
     go_wp2_with (first | (go_at_call 86; (with_reducible refine (dE.calls (bt a0 x8_1) true _ A26.1).mono ?_); rintro e w28 ⟨rfl, hb⟩; refine df (bb_ BK118.1 hb) (bb_ BK119.1 hb) (bb_ BK121.1 hb) (ah (bl3_ HB.1 GE118.1 GE119.1 GE121.1) hb) ?_; clear BK118 BK119 BK121 HB; intro BK118 BK119 BK121 HB; (try clear hb); (try clear hb2); (try clear hk); (try clear hi)))
     go_roundg k1
     case measure => have := HK1.1; omega
     case rel => exact ⟨(wrap64 (x8_1 + 1)), sr_, H', ⟨om_ HK1.1⟩, ⟨bk_ BK118.1⟩, ⟨bk_ BK119.1⟩, ⟨bk_ BK121.1⟩, ⟨bl3_ HB.1 GE118.1 GE119.1 GE121.1⟩⟩
    have H' := af.mk H; clear H; have p25 : (0 ≤ (x8_1 : Int)) = True := dT_; have q25 : (x8_1 < (a0.size : Int)) = True := dT_; have hx25 := bS a0 x8_1
    go_wp2_with (first | (go_at_call 86; (with_reducible refine (dE.calls (bt a0 x8_1) false _ A26.1).mono ?_); rintro e w29 ⟨rfl, hb⟩; refine df (bb_ BK118.1 hb) (bb_ BK119.1 hb) (bb_ BK121.1 hb) (ah (bl3_ HB.1 GE118.1 GE119.1 GE121.1) hb) ?_; clear BK118 BK119 BK121 HB; intro BK118 BK119 BK121 HB; (try clear hb); (try clear hb2); (try clear hk); (try clear hi)))
    go_meet
    case rel => exact ⟨_, (x8_1), sr_, H', ⟨ol_ HK1.1⟩, ⟨bk_ BK118.1⟩, ⟨bk_ BK119.1⟩, ⟨bk_ BK121.1⟩, ⟨bl3_ HB.1 GE118.1 GE119.1 GE121.1⟩⟩
  case rest =>
   clear HC21; (try clear c4); (try clear c4b0); (try clear c4b1); (try clear c11); (try clear c11b0); (try clear c12); (try clear c12b0); (try clear p13); (try clear q13); (try clear hx13); (try clear c20); (try clear p13); (try clear q13); obtain ⟨kq, x8_20, rfl, HA, HJ20, BK118, BK119, BK121, HB⟩ := hcut
   cases kq with
   | zero => exact absurd HA.1 (by simp [bf.j1])
   | succ kj20 =>
    have H := HA.1; clear HA; simp only [bf.j1] at H; replace H := gt_ H; obtain ⟨c30b0, c30b1, H⟩ := H; replace H := gt_ H; obtain ⟨c31b0, c31b1, H⟩ := H; replace H := gt_ H; obtain ⟨c32b0, c32b1, H⟩ := H; replace H := bn_ H; obtain ⟨⟨t124, t125, t126, t127, t128⟩, A33, H⟩ := H; (try dsimp only at H); have H' := af.mk H; clear H
    go_wp2_with (first | ((with_reducible refine aj (f := 87) rfl ?_); refine gk_ (some 47) Tryz.func87 (fE.calls kj20 (a0.extract (t120 : Int).toNat (x8_20 : Int).toNat) t124 t125 t126 t127 t128 _ A33.1) ?_; rintro e w34 ⟨rfl, hb⟩; refine ⟨_, rfl, ?_⟩; refine df (bb_ BK118.1 hb) (bb_ BK119.1 hb) (bb_ BK121.1 hb) (ah (bl3_ HB.1 GE118.1 GE119.1 GE121.1) hb) ?_; clear hb BK118 BK119 BK121 HB; intro BK118 BK119 BK121 HB; have hnb35 := NB121_118.1; have hnc35 := NB118_121.1; have hnb36 := NB121_119.1; have hnc36 := NB119_121.1; obtain ⟨hcz37_0, hcz37_1, hcz37_2, hcz37_3, hfz37_0, hfz37_1, hfz37_2, hfz37_3⟩ := cq4_ BK121.1))
    go_meet
    case rel => exact ⟨_, (x8_20), (t128), (t124), (t125), (t126), (t127), sr_, sr_, H', ⟨by have := HJ20.1; first | omega | exact Nat.le_refl _⟩, ⟨eX (bk_ BK118.1) NB118_121.1⟩, ⟨eX (bk_ BK119.1) NB119_121.1⟩, ⟨dK (bk_ BK121.1)⟩, ⟨bl3_ HB.1 GE118.1 GE119.1 GE121.1⟩⟩
 case rest =>
  clear HC14; (try clear c4); (try clear c4b0); (try clear c4b1); (try clear c11); (try clear c11b0); (try clear c12); (try clear c12b0); (try clear p13); (try clear q13); (try clear hx13); (try clear p13); (try clear q13); obtain ⟨kq, x8_13, x9_13, x122000_13, x122001_13, x122002_13, x122003_13, rfl, rfl, HA, HJ13, BK118, BK119, BK121, HB⟩ := hcut
  cases kq with
  | zero => exact absurd HA.1 (by simp [bf.j2])
  | succ kj13 =>
   have H := HA.1; clear HA; simp only [bf.j2] at H; replace H := (sp_ H).symm; obtain ⟨c60, H⟩ | ⟨c60, H⟩ := H
   ·
    have c60b0 := beq_eq_false_iff_ne.mpr c60; have c60b1 := bne_iff_ne.mpr c60; simp only [Option.some.injEq, Prod.mk.injEq] at H; obtain ⟨rfl, rfl, rfl, rfl, rfl, rfl, rfl⟩ := H; have hnb67 := NB118_119.1; have hnc67 := NB119_118.1; have hnb68 := NB118_121.1; have hnc68 := NB121_118.1; obtain ⟨hcz69_0, hcz69_1, hcz69_2, hcz69_3, hfz69_0, hfz69_1, hfz69_2, hfz69_3⟩ := cq4_ BK118.1; have hnb70 := NB119_121.1; have hnc70 := NB121_119.1; obtain ⟨hcz71_0, hcz71_1, hfz71_0, hfz71_1⟩ := cq2_ BK119.1
    go_wp2
    refine bodyPost_ret (dO (rs := [.cell 4 50, .tmp 5, .cell 6 40]) rfl (by simp) (.cell gb118 50 #[.int .i64 0, .string (⟨#[]⟩ : ByteArray), .int .i64 0, .int .i64 0] (0, 0) _ rfl (by exact dC (dK (bk_ BK118.1)) NB118_119.1) Tryz.underlying50 rfl (by kernel_rfl) (.tmp (.cell gb119 40 #[.int .i64 x9_13, .int .i64 t120] (0, 0) _ rfl (by refine aU (cs := #[.int .i64 x9_13, .int .i64 0]) ?_ 1 _ rfl; refine aU (cs := #[.int .i64 0, .int .i64 0]) ?_ 0 _ rfl; exact eX (bk_ BK119.1) NB119_118.1) Tryz.underlying40 rfl (by kernel_rfl) .nil)))) rfl ?_; exact ⟨er_, bl3_ HB.1 GE118.1 GE119.1 GE121.1⟩
   have c60b0 := beq_iff_eq.mpr c60; have c60b1 := bne_eq_false_iff_eq.mpr c60; clear c60; simp only [Option.some.injEq, Prod.mk.injEq] at H; obtain ⟨rfl, rfl, rfl, rfl, rfl, rfl, rfl⟩ := H; have hnb61 := NB121_118.1; have hnc61 := NB118_121.1; have hnb62 := NB121_119.1; have hnc62 := NB119_121.1; obtain ⟨hcz63_0, hcz63_1, hcz63_2, hcz63_3, hfz63_0, hfz63_1, hfz63_2, hfz63_3⟩ := cq4_ BK121.1; have hnb64 := NB118_119.1; have hnc64 := NB119_118.1; obtain ⟨hcz65_0, hcz65_1, hcz65_2, hcz65_3, hfz65_0, hfz65_1, hfz65_2, hfz65_3⟩ := cq4_ BK118.1; obtain ⟨hcz66_0, hcz66_1, hfz66_0, hfz66_1⟩ := cq2_ BK119.1
   go_wp2
   refine bodyPost_ret (dO (rs := [.cell 4 50, .tmp 5, .cell 6 40]) rfl (by simp) (.cell gb118 50 #[.int .i64 x122000_13, .string x122001_13, .int .i64 x122002_13, .int .i64 t120] (0, 0) _ rfl (by refine dC ?_ NB118_119.1; refine aU (cs := #[.int .i64 x122000_13, .string x122001_13, .int .i64 x122002_13, .int .i64 0]) ?_ 3 _ rfl; refine aU (cs := #[.int .i64 x122000_13, .string x122001_13, .int .i64 0, .int .i64 0]) ?_ 2 _ rfl; refine aU (cs := #[.int .i64 x122000_13, .string (⟨#[]⟩ : ByteArray), .int .i64 0, .int .i64 0]) ?_ 1 _ rfl; refine aU (cs := #[.int .i64 0, .string (⟨#[]⟩ : ByteArray), .int .i64 0, .int .i64 0]) ?_ 0 _ rfl; exact fO (bk_ BK118.1) NB118_121.1) Tryz.underlying50 rfl (by kernel_rfl) (.tmp (.cell gb119 40 #[.int .i64 0, .int .i64 0] (0, 0) _ rfl (by refine aU (cs := #[.int .i64 0, .int .i64 0]) ?_ 1 _ rfl; refine aU (cs := #[.int .i64 0, .int .i64 0]) ?_ 0 _ rfl; exact eX (fO (bk_ BK119.1) NB119_121.1) NB119_118.1) Tryz.underlying40 rfl (by kernel_rfl) .nil)))) rfl ?_; exact ⟨er_, bl3_ HB.1 GE118.1 GE119.1 GE121.1⟩
end Go.Proofs.YtkifdadhojbohaaGreatDoor.Pr
namespace Go.Proofs.YtkifdadhojbohaaGreatDoor.Pu
open Go.RowKit Go.Proofs.YtkifdadhojbohaaGreatDoor Go.Proofs.YtkifdadhojbohaaGreatDoor.Pr Go.Proofs.YtkifdadhojbohaaGreatDoorW.PrintWords Go.Proofs.YtkifdadhojbohaaGreatDoorW.PrintLast
theorem bU (i : Nat) (h : i ≤ 1000000) : wrap64 ((i : Int) + 1) = ((i + 1 : Nat) : Int) := by rw [gq (by omega) (by omega)]; rfl
theorem natO {i : Nat} : (0 : Int) ≤ (i : Int) := by omega
def bQ (c : UInt8) : Bool := kindOf c.toNat == 2 || kindOf c.toNat == 3 || kindOf c.toNat == 4
def isLet (c : UInt8) : Bool := kindOf c.toNat == 2 && c.toNat != 95
def fC (c : UInt8) : Bool := kindOf c.toNat == 3
def lq (c : UInt8) : Bool := c.toNat == 46
def numL (t : List UInt8) : Int × Int :=
  let i := t.findIdx (· == 46)
  let w := t.take i
  let p := t.drop (i + 1)
  if w = [] ∨ (1 < w.length ∧ w.head? = some 48) ∨ (i < t.length ∧ (p = [] ∨ 3 < p.length)) then (0, 2)
  else if (w ++ p).all fC = false then (0, 2)
  else if 10 < w.length then (0, 5)
  else if dQ (w ++ (p ++ [48, 48, 48]).take 3) > 1000000000 then (0, 5)
  else ((dQ (w ++ (p ++ [48, 48, 48]).take 3) : Int), 0)
def wordL (t : List UInt8) : Int := if t.any lq then 2 else if t.any isLet then (if 32 < t.length then 6 else 0) else 2
def badT (c : UInt8) : Bool := c.toNat < 32 || 126 < c.toNat || c.toNat == 34
def iU (t : List UInt8) : Int :=
  if t = [] ∨ t.head? = some 32 ∨ t.getLast? = some 32 then 2 else if t.any badT then 2 else if 40 < t.length then 6 else 0
structure Res where
  kind : Int
  text : List UInt8
  n : Int
  rest : List UInt8
  code : Int
def clsL (t rest : List UInt8) : Res := if (numL t).2 = 2 then ⟨1, t, 0, rest, wordL t⟩ else ⟨2, [], (numL t).1, rest, (numL t).2⟩
def fG (c : UInt8) : Bool := c.toNat != 34 && c.toNat != 10
def gQ (l : List UInt8) : Res :=
  match l.dropWhile fG with
  | [] => ⟨0, [], 0, [], 2⟩
  | c :: r => if c.toNat = 34 then ⟨3, l.takeWhile fG, 0, r, iU (l.takeWhile fG)⟩ else ⟨0, [], 0, [], 2⟩
def tokL : List UInt8 → Res
  | [] => ⟨5, [], 0, [], 0⟩
  | c :: l =>
    if bQ c then clsL (c :: l.takeWhile bQ) (l.dropWhile bQ)
    else if c.toNat = 34 then gQ l
    else if kindOf c.toNat = 5 then ⟨4, [c], 0, l, 0⟩
    else ⟨0, [], 0, [], 2⟩
theorem isRun_f (c : UInt8) : dE.f (c.toNat : Int) = some (bQ c) := by
  unfold dE.f bQ
  rw [jR]
  simp only [Option.bind_some, jT]
  rw [if_pos (by omega), if_pos (jS c)]
  by_cases h2 : kindOf c.toNat = 2
  · rw [if_pos (by omega)]; simp [h2]
  · rw [if_neg (by omega)]
    by_cases h3 : kindOf c.toNat = 3
    · rw [if_pos (by omega)]; simp [h3]
    · rw [if_neg (by omega)]
      have : ((kindOf c.toNat : Int) == 4) = (kindOf c.toNat == 4) := by
        rw [Bool.eq_iff_iff]; simp only [beq_iff_eq]; omega
      rw [this]; simp [h2, h3]
theorem word_loop (s : ByteArray) (hs : s.size ≤ 1000000) : ∀ (d i : Nat) (b : Bool) (l : List UInt8), i ≤ s.size → s.size - i = d → (lst s).drop i = l →
    Ev (fun k => bG.l0 k s b s.size i) (if l.any lq then 2 else if b || l.any isLet then (if 32 < s.size then 6 else 0) else 2) := by
  intro d
  induction d with
  | zero =>
    intro i b l hi hd hl
    obtain rfl : i = s.size := by omega
    obtain rfl : l = [] := by rw [← hl]; exact List.drop_eq_nil_of_le (by rw [aI]; omega)
    refine Ev.succ ?_
    simp only [bG.l0]
    refine Ev.ifn (by omega) ?_
    cases b with
    | false => exact Ev.ifn (by decide) (Ev.ret (by simp))
    | true =>
      refine Ev.ifp rfl ?_
      by_cases h : 32 < s.size
      · exact Ev.ifp (by omega) (Ev.ret (by simp [h]))
      · exact Ev.ifn (by omega) (Ev.ret (by simp [h]))
  | succ d ih =>
    intro i b l hi hd hl
    cases l with
    | nil => exact absurd (at_nil hi hl) (by omega)
    | cons c l =>
      obtain ⟨h1, h2, h3⟩ := gp hl
      refine Ev.succ ?_
      simp only [bG.l0]
      rw [h2, bU i (by omega)]
      refine Ev.ifp (by omega) (Ev.ifp (by omega) (Ev.ifp (by omega) ?_))
      by_cases h46 : c.toNat = 46
      · exact Ev.ifp (by omega) (Ev.ret (by simp [lq, h46]))
      · refine Ev.ifn (by omega) ?_
        have hdot : lq c = false := by simp [lq, h46]
        simp only [List.any_cons, hdot, Bool.false_or]
        cases b with
        | true => exact Ev.ifp rfl (by simpa using ih (i + 1) true l (by omega) (by omega) h3)
        | false =>
          refine Ev.ifn (by decide) (Ev.val jR (Ev.ifp (by omega) (Ev.ifp (jS c) ?_)))
          rw [jT]
          by_cases hk : kindOf c.toNat = 2
          · refine Ev.ifp (by omega) ?_
            have hb : ((c.toNat : Int) != 95) = isLet c := by
              rw [isLet, hk, Bool.eq_iff_iff]; simp; omega
            rw [hb]
            simpa using ih (i + 1) (isLet c) l (by omega) (by omega) h3
          · refine Ev.ifn (by omega) ?_
            have hb : isLet c = false := by simp [isLet, hk]
            simpa [hb] using ih (i + 1) false l (by omega) (by omega) h3
theorem word_f (s : ByteArray) (hs : s.size ≤ 1000000) : Ev (fun k => bG.f k s) (wordL (lst s)) := by
  have h := word_loop s hs _ 0 false (lst s) (by omega) rfl rfl
  simp only [Bool.false_or] at h
  exact h
theorem title_loop (s : ByteArray) (hs : s.size ≤ 1000000) : ∀ (d i : Nat) (l : List UInt8), i ≤ s.size → s.size - i = d → (lst s).drop i = l →
    Ev (fun k => bi.l0 k s s.size i) (if l.any badT then 2 else if 40 < s.size then 6 else 0) := by
  intro d
  induction d with
  | zero =>
    intro i l hi hd hl
    obtain rfl : i = s.size := by omega
    obtain rfl : l = [] := by rw [← hl]; exact List.drop_eq_nil_of_le (by rw [aI]; omega)
    refine Ev.succ ?_
    simp only [bi.l0]
    refine Ev.ifn (by omega) ?_
    by_cases h : 40 < s.size
    · exact Ev.ifp (by omega) (Ev.ret (by simp [h]))
    · exact Ev.ifn (by omega) (Ev.ret (by simp [h]))
  | succ d ih =>
    intro i l hi hd hl
    cases l with
    | nil => exact absurd (at_nil hi hl) (by omega)
    | cons c l =>
      obtain ⟨h1, h2, h3⟩ := gp hl
      refine Ev.succ ?_
      simp only [bi.l0]
      rw [h2, bU i (by omega)]
      refine Ev.ifp (by omega) (Ev.ifp (by omega) (Ev.ifp (by omega) ?_))
      by_cases ha : c.toNat < 32
      · exact Ev.ifp (by omega) (Ev.ret (by simp [badT, ha]))
      · refine Ev.ifn (by omega) ?_
        by_cases hb : 126 < c.toNat
        · exact Ev.ifp (by omega) (Ev.ret (by simp [badT, hb]))
        · refine Ev.ifn (by omega) ?_
          by_cases hc : c.toNat = 34
          · exact Ev.ifp (by omega) (Ev.ret (by simp [badT, hc]))
          · refine Ev.ifn (by omega) ?_
            have : badT c = false := by simp [badT, ha, hb, hc]
            simp only [List.any_cons, this, Bool.false_or]
            exact ih (i + 1) l (by omega) (by omega) h3
theorem lu {s : ByteArray} (h : 0 < s.size) : ∃ c, (lst s).head? = some c ∧ bt s 0 = (c.toNat : Int) := by
  cases hl : lst s with
  | nil => have := aI s; rw [hl] at this; simp at this; omega
  | cons c l =>
    have := gp (s := s) (i := 0) (c := c) (l := l) (by simpa using hl)
    exact ⟨c, rfl, this.2.1⟩
theorem bt_get {s : ByteArray} {i : Nat} (h : i < s.size) : ∃ c, (lst s)[i]? = some c ∧ bt s (i : Int) = (c.toNat : Int) := by
  have hi : i < (lst s).length := by rw [aI]; exact h
  refine ⟨(lst s)[i], List.getElem?_eq_getElem hi, ?_⟩
  exact (gp (s := s) (i := i) (c := (lst s)[i]) (l := (lst s).drop (i + 1)) (List.drop_eq_getElem_cons hi)).2.1
theorem last_bt {s : ByteArray} (h : 0 < s.size) : ∃ c, (lst s).getLast? = some c ∧ bt s ((s.size - 1 : Nat) : Int) = (c.toNat : Int) := by
  obtain ⟨c, h1, h2⟩ := bt_get (s := s) (i := s.size - 1) (by omega)
  refine ⟨c, ?_, h2⟩
  rw [List.getLast?_eq_getElem?, aI]; exact h1
theorem kG {c : UInt8} {n : Nat} (hn : n < 256) : (some c = some (UInt8.ofNat n)) ↔ c.toNat = n := by
  rw [Option.some.injEq, ← UInt8.toNat_inj, UInt8.toNat_ofNat', Nat.mod_eq_of_lt hn]
theorem title_f (s : ByteArray) (hs : s.size ≤ 1000000) : Ev (fun k => bi.f k s) (iU (lst s)) := by
  have hloop := title_loop s hs _ 0 (lst s) (by omega) rfl rfl
  unfold bi.f iU
  by_cases h0 : lst s = []
  · refine Ev.ifp (by rw [dx]; exact h0) (Ev.succ ?_)
    simp only [bi.j0]
    exact Ev.ifp (by simp) (Ev.ret (by simp [h0]))
  · have hp : 0 < s.size := by
      rw [← aI]; exact List.length_pos_iff.2 h0
    refine Ev.ifn (by rw [dx]; exact h0) (Ev.ifp (by omega) ?_)
    obtain ⟨c, hc, hb⟩ := lu hp
    obtain ⟨d, hd, he⟩ := last_bt hp
    rw [hb]
    have hw : wrap64 ((s.size : Int) - 1) = ((s.size - 1 : Nat) : Int) := by rw [gq (by omega) (by omega)]; omega
    rw [hw, he, hc, hd]
    have i1 : (some c = some (32 : UInt8)) ↔ c.toNat = 32 := kG (by decide)
    have i2 : (some d = some (32 : UInt8)) ↔ d.toNat = 32 := kG (by decide)
    by_cases h32 : c.toNat = 32
    · refine Ev.ifp (by omega) (Ev.succ ?_)
      simp only [bi.j0]
      exact Ev.ifp (by simp) (Ev.ret (by rw [if_pos (.inr (.inl (i1.2 h32)))]))
    · refine Ev.ifn (by omega) (Ev.ifp (by omega) (Ev.ifp (by omega) (Ev.succ ?_)))
      simp only [bi.j0]
      by_cases hl : d.toNat = 32
      · refine Ev.ifp (by rw [beq_iff_eq]; omega) (Ev.ret (by rw [if_pos (.inr (.inr (i2.2 hl)))]))
      · refine Ev.ifn (by rw [beq_iff_eq]; omega) ?_
        rw [if_neg (by rw [i1, i2]; simp [h0, h32, hl])]
        rw [aI]
        exact hloop
theorem jf (c : UInt8) : fC c = true ↔ 48 ≤ c.toNat ∧ c.toNat ≤ 57 := by
  unfold fC kindOf
  rw [beq_iff_eq]
  constructor
  · intro h
    (repeat' split at h) <;> omega
  · intro h
    rw [if_neg (by omega), if_neg (by omega), if_pos h]
theorem digs_all {l : List UInt8} (h : l.all fC = true) : l.all (fun c => 48 ≤ c.toNat && c.toNat ≤ 57) = true := by
  rw [List.all_eq_true] at h ⊢
  intro c hc
  have := (jf c).1 (h c hc)
  simp [this.1, this.2]
def kN (w p : List UInt8) : Int × Int :=
  if 10 < w.length then (0, 5)
  else if dQ (w ++ (p ++ [48, 48, 48]).take 3) > 1000000000 then (0, 5)
  else ((dQ (w ++ (p ++ [48, 48, 48]).take 3) : Int), 0)
theorem num_tail (w p : ByteArray) (hw : lst w ≠ []) (hs : w.size + p.size ≤ 1000000) (hd : (lst w ++ lst p).all fC = true) (k : Nat) (x : Int) :
    (if (w.size : Int) > 10 then (some ((0 : Int), (5 : Int))) else (if p.size + 3 ≤ 9223372036854775807 then (if (0 : Int) ≤ 3 then (if 3 ≤ ((p ++ (⟨#[48, 48, 48]⟩ : ByteArray)).size : Int) then (if w.size + ((p ++ (⟨#[48, 48, 48]⟩ : ByteArray)).extract 0 3).size ≤ 9223372036854775807 then ((dJ.f (w ++ ((p ++ (⟨#[48, 48, 48]⟩ : ByteArray)).extract 0 3)) 10 64).bind fun bt110 => (if bt110.1 > 1000000000 then (some (0, 5)) else (some (bt110.1, 0)))) else (none)) else (none)) else (none)) else (none))) = some (kN (lst w) (lst p)) := by
  have hl : (lst w).length = w.size := aI w
  unfold kN
  by_cases h10 : 10 < w.size
  · rw [if_pos (show (w.size : Int) > 10 by omega), if_pos (show 10 < (lst w).length by omega)]
  · rw [if_neg (show ¬ (w.size : Int) > 10 by omega), if_neg (show ¬ 10 < (lst w).length by omega), if_pos (show p.size + 3 ≤ 9223372036854775807 by omega), if_pos (show (0 : Int) ≤ 3 by decide)]
    have hsz : ((p ++ (⟨#[48, 48, 48]⟩ : ByteArray)).size) = p.size + 3 := by rw [ByteArray.size_append]; rfl
    rw [if_pos (by omega)]
    have hlx : lst ((p ++ (⟨#[48, 48, 48]⟩ : ByteArray)).extract 0 3) = (lst p ++ [48, 48, 48]).take 3 := by
      rw [eO, iK]; rfl
    have hx3 : ((p ++ (⟨#[48, 48, 48]⟩ : ByteArray)).extract 0 3).size = 3 := by
      rw [← aI, hlx, List.length_take, List.length_append, aI]; simp
    rw [if_pos (by omega)]
    have hla : lst (w ++ ((p ++ (⟨#[48, 48, 48]⟩ : ByteArray)).extract 0 3)) = lst w ++ (lst p ++ [48, 48, 48]).take 3 := by rw [iK, hlx]
    have hsa : (w ++ ((p ++ (⟨#[48, 48, 48]⟩ : ByteArray)).extract 0 3)).size = w.size + 3 := by rw [ByteArray.size_append, hx3]
    have h0 : 0 < w.size := by rw [← hl]; exact List.length_pos_iff.2 hw
    rw [List.all_append, Bool.and_eq_true] at hd
    have hdig : (lst (w ++ ((p ++ (⟨#[48, 48, 48]⟩ : ByteArray)).extract 0 3))).all (fun c => 48 ≤ c.toNat && c.toNat ≤ 57) = true := by
      rw [hla]
      apply digs_all
      rw [List.all_append, hd.1, Bool.true_and, List.all_eq_true]
      intro c hc
      have hc2 := List.mem_of_mem_take hc
      rw [List.mem_append] at hc2
      rcases hc2 with hc2 | hc2
      · exact (List.all_eq_true.1 hd.2) c hc2
      · simp at hc2; subst hc2; decide
    have hpi : dJ.f (w ++ ((p ++ (⟨#[48, 48, 48]⟩ : ByteArray)).extract 0 3)) 10 64 = some ((dQ (lst w ++ (lst p ++ [48, 48, 48]).take 3) : Int), .nilIface) := by
      unfold dJ.f
      rw [if_pos ⟨rfl, rfl, by omega, by omega, hdig⟩]
      rw [← hla]; rfl
    rw [hpi]
    simp only [Option.bind_some]
    by_cases hm : dQ (lst w ++ (lst p ++ [48, 48, 48]).take 3) > 1000000000
    · rw [if_pos (by omega), if_pos hm]
    · rw [if_neg (by omega), if_neg hm]
theorem num_loop (w p : ByteArray) (hw : lst w ≠ []) (hs : w.size + p.size ≤ 1000000) : ∀ (d i : Nat) (l : List UInt8), i ≤ w.size + p.size → w.size + p.size - i = d → (lst w ++ lst p).drop i = l →
    ((lst w ++ lst p).take i).all fC = true → Ev (fun k => aJ.l0 k w p ((w.size + p.size : Nat) : Int) i) (if l.all fC then kN (lst w) (lst p) else (0, 2)) := by
  have hsz : (w ++ p).size = w.size + p.size := ByteArray.size_append
  intro d
  induction d with
  | zero =>
    intro i l hi hd hl ht
    obtain rfl : i = w.size + p.size := by omega
    have hlen : (lst w ++ lst p).length = w.size + p.size := by simp [aI]
    obtain rfl : l = [] := by rw [← hl]; exact List.drop_eq_nil_of_le (by omega)
    rw [List.take_of_length_le (by omega)] at ht
    refine Ev.succ ?_
    simp only [aJ.l0]
    refine Ev.ifn (by omega) ?_
    exact Ev.congr (fun k => num_tail w p hw hs ht k 0) (Ev.ret (by simp))
  | succ d ih =>
    intro i l hi hd hl ht
    cases l with
    | nil => have := congrArg List.length hl; simp [aI] at this; omega
    | cons c l =>
      rw [← iK] at hl
      obtain ⟨h1, h2, h3⟩ := gp hl
      have htk : (lst w ++ lst p).take (i + 1) = (lst w ++ lst p).take i ++ [c] := by
        rw [← iK, List.take_succ_eq_append_getElem (by rw [aI]; exact h1)]
        congr 2
        have := congrArg (·[0]?) hl
        simp only [List.getElem?_drop, Nat.add_zero, List.getElem?_cons_zero] at this
        exact (List.getElem?_eq_some_iff.1 this).2
      refine Ev.succ ?_
      simp only [aJ.l0]
      rw [h2, bU i (by omega)]
      refine Ev.ifp (by omega) (Ev.val jR (Ev.ifp (by omega) (Ev.ifp (by omega) (Ev.ifp (by omega) (Ev.ifp (by omega) (Ev.ifp (jS c) ?_))))))
      rw [jT]
      by_cases hk : kindOf c.toNat = 3
      · refine Ev.ifp (by omega) ?_
        have hdg : fC c = true := by simp [fC, hk]
        rw [iK] at h3
        have := ih (i + 1) l (by omega) (by omega) h3 (by rw [htk, List.all_append, ht]; simp [hdg])
        simpa [hdg] using this
      · refine Ev.ifn (by omega) (Ev.ret ?_)
        have hdg : fC c = false := by simp [fC, hk]
        simp [hdg]
theorem num_j0 (w p : ByteArray) (hs : w.size + p.size ≤ 1000000) (b : Bool) (hw : b = false → lst w ≠ []) :
    Ev (fun k => aJ.j0 k w p b) (if b then (0, 2) else if (lst w ++ lst p).all fC then kN (lst w) (lst p) else (0, 2)) := by
  refine Ev.succ ?_
  simp only [aJ.j0]
  cases b with
  | true => exact Ev.ifp (by simp) (Ev.ret (by simp))
  | false =>
    refine Ev.ifn (by simp) ?_
    have hwr : wrap64 ((w.size : Int) + (p.size : Int)) = ((w.size + p.size : Nat) : Int) := by rw [gq (by omega) (by omega)]; omega
    rw [hwr]
    have := num_loop w p (hw rfl) hs _ 0 _ (by omega) rfl rfl (by simp)
    simpa using this
theorem cut_f (s : ByteArray) (hs : s.size ≤ 1000000) : ∃ w p b, strings_Cut.f s (⟨#[46]⟩ : ByteArray) = some (w, p, b) ∧ lst w = (lst s).take ((lst s).findIdx (· == 46)) ∧ lst p = (lst s).drop ((lst s).findIdx (· == 46) + 1) ∧ b = decide ((lst s).findIdx (· == 46) < s.size) := by
  unfold strings_Cut.f
  rw [if_pos ⟨rfl, by omega⟩]
  unfold cutDot
  by_cases h : (lst s).findIdx (· == 46) < s.size
  · have h' : s.data.toList.findIdx (· == 46) < s.size := h
    refine ⟨_, _, _, by rw [if_pos h'], ?_, ?_, by simp [h]⟩
    · rw [eO]; simp [lst]
    · rw [eO, List.take_of_length_le (by rw [aI]; omega)]; rfl
  · have h' : ¬ s.data.toList.findIdx (· == 46) < s.size := h
    refine ⟨_, _, _, by rw [if_neg h'], ?_, ?_, by simp [h]⟩
    · rw [List.take_of_length_le (by rw [aI]; omega)]
    · rw [List.drop_eq_nil_of_le (by rw [aI]; omega)]; rfl
theorem number_f (s : ByteArray) (hs : s.size ≤ 1000000) : Ev (fun k => aJ.f k s) (numL (lst s)) := by
  obtain ⟨w, p, b, hc, hw, hp, hb⟩ := cut_f s hs
  have hlw : (lst w).length = w.size := aI w
  have hlp : (lst p).length = p.size := aI p
  have hle : w.size + p.size ≤ 1000000 := by
    rw [← hlw, ← hlp, hw, hp, List.length_take, List.length_drop, aI]; omega
  have e : numL (lst s) = (if lst w = [] ∨ (1 < (lst w).length ∧ (lst w).head? = some 48) ∨ ((lst s).findIdx (· == 46) < s.size ∧ (lst p = [] ∨ 3 < (lst p).length)) then (0, 2) else if (lst w ++ lst p).all fC = false then (0, 2) else kN (lst w) (lst p)) := by
    unfold numL kN
    dsimp only
    rw [← hw, ← hp, aI s]
  rw [e]
  unfold aJ.f
  refine Ev.val hc ?_
  simp only [gt_iff_lt]
  have h48 : ∀ c : UInt8, (some c = some (48 : UInt8)) ↔ c.toNat = 48 := fun c => kG (by decide)
  by_cases h0 : lst w = []
  · refine Ev.ifp (by rw [dx]; exact h0) ?_
    have := num_j0 w p hle true (by simp)
    rw [if_pos (.inl h0)]
    simpa using this
  · refine Ev.ifn (by rw [dx]; exact h0) ?_
    have hp0 : 0 < w.size := by rw [← hlw]; exact List.length_pos_iff.2 h0
    obtain ⟨c, hc1, hc2⟩ := lu hp0
    have tailed : (1 < (lst w).length ∧ (lst w).head? = some 48 → False) → Ev (fun k => if b = true then (if p.toList = ([] : List UInt8) then (aJ.j0 k w p true) else (aJ.j0 k w p (decide (3 < (p.size : Int))))) else (aJ.j0 k w p false))
        (if lst w = [] ∨ (1 < (lst w).length ∧ (lst w).head? = some 48) ∨ ((lst s).findIdx (· == 46) < s.size ∧ (lst p = [] ∨ 3 < (lst p).length)) then (0, 2) else if (lst w ++ lst p).all fC = false then (0, 2) else kN (lst w) (lst p)) := by
      intro hz
      by_cases hb1 : (lst s).findIdx (· == 46) < s.size
      · have : b = true := by rw [hb]; simp [hb1]
        subst this
        refine Ev.ifp rfl ?_
        by_cases hpn : lst p = []
        · refine Ev.ifp (by rw [dx]; exact hpn) ?_
          rw [if_pos (.inr (.inr ⟨hb1, .inl hpn⟩))]
          simpa using num_j0 w p hle true (by simp)
        · refine Ev.ifn (by rw [dx]; exact hpn) ?_
          by_cases h3 : 3 < p.size
          · rw [if_pos (.inr (.inr ⟨hb1, .inr (by omega)⟩))]
            have : (decide (3 < (p.size : Int))) = true := by simp; omega
            rw [this]
            simpa using num_j0 w p hle true (by simp)
          · rw [if_neg (by rintro (h | h | h); exact h0 h; exact hz h; rcases h.2 with h | h; exact hpn h; omega)]
            have : (decide (3 < (p.size : Int))) = false := by simp; omega
            rw [this]
            have hj := num_j0 w p hle false (fun _ => h0)
            by_cases ha : (lst w ++ lst p).all fC = true
            · simpa [ha] using hj
            · rw [Bool.not_eq_true] at ha; simpa [ha] using hj
      · have : b = false := by rw [hb]; simp [hb1]
        subst this
        refine Ev.ifn (by simp) ?_
        rw [if_neg (by rintro (h | h | h); exact h0 h; exact hz h; exact hb1 h.1)]
        have hj := num_j0 w p hle false (fun _ => h0)
        by_cases ha : (lst w ++ lst p).all fC = true
        · simpa [ha] using hj
        · rw [Bool.not_eq_true] at ha; simpa [ha] using hj
    by_cases h1 : 1 < w.size
    · refine Ev.ifp (by omega) (Ev.ifp (by omega) ?_)
      rw [hc2]
      by_cases hz : c.toNat = 48
      · refine Ev.ifp (by omega) ?_
        rw [if_pos (.inr (.inl ⟨by omega, by rw [hc1, h48]; exact hz⟩))]
        simpa using num_j0 w p hle true (by simp)
      · refine Ev.ifn (by omega) ?_
        exact tailed (fun h => hz (by have := h.2; rwa [hc1, h48] at this))
    · refine Ev.ifn (by omega) ?_
      exact tailed (fun h => h1 (by omega))
end Go.Proofs.YtkifdadhojbohaaGreatDoor.Pu
namespace Go.Proofs.YtkifdadhojbohaaGreatDoor.Pr
open Go.Proofs.YtkifdadhojbohaaGreatDoor
open Go.RowKit Go.Proofs.YtkifdadhojbohaaGreatDoorW.PrintWords Go.Proofs.YtkifdadhojbohaaGreatDoorW.PrintLast Go.Proofs.YtkifdadhojbohaaGreatDoorW.PrintMore
attribute [local go_sem] fU fQ gL gK eT eQ fT fP
def cu.l0 : Nat → ByteArray → List (S46) → Int → Option ((List (S46)) × Int × Int)
 | 0, _, _, _ => none
 | k + 1, x0, x4, x5 => (bf.f k x0 x5).bind fun bt137 => (if bt137.2.2.2.2.2.1 = 0 then (if x4.length < 3518437208883 then ((some (x4 ++ [(⟨bt137.1, bt137.2.1, bt137.2.2.1, bt137.2.2.2.1⟩ : S46)] : List (S46))).bind fun y146 => (if bt137.1 = 5 then (some (y146, 0, 0)) else (cu.l0 k x0 y146 bt137.2.2.2.2.1))) else (none)) else (some (([] : List (S46)), bt137.2.2.2.2.2.1, bt137.2.2.2.2.2.2)))
def cu.f (k : Nat) (a0 : ByteArray) : Option ((List (S46)) × Int × Int) := if (a0.size : Int) > 65536 then (some (([] : List (S46)), 6, 65536)) else (cu.l0 k a0 ([] : List (S46)) 0)
theorem cu.mono_l : ∀ k, (∀ y0 y1 y2, LeO (cu.l0 k y0 y1 y2) (cu.l0 (k + 1) y0 y1 y2))
 | 0 => fun _ _ _ r h => by simp [cu.l0] at h
 | k + 1 => by
  have ih0 := cu.mono_l k
  ·
   intro y0 y1 y2
   unfold cu.l0
   repeat' first
   | (with_reducible exact LeO.refl _)
   | exact ih0 _ _ _
   | exact bf.mono _ _ _
   | exact LeO.none _
   | refine LeO.ite ?_ ?_
   | refine LeO.bind ?_ (fun _ => ?_)
theorem cu.mono : ∀ a0 k, LeO (cu.f k a0) (cu.f (k + 1) a0) := by
 intro a0 k
 have ih0 := cu.mono_l k
 unfold cu.f
 repeat' first
   | (with_reducible exact LeO.refl _)
   | exact ih0 _ _ _
   | exact bf.mono _ _ _
   | exact LeO.none _
   | refine LeO.ite ?_ ?_
   | refine LeO.bind ?_ (fun _ => ?_)
theorem cu.calls (k : Nat) (a0 : ByteArray) (r1 : List (S46)) (r2 : Int) (r3 : Int) (w : World) (h : cu.f k a0 = some (r1, r2, r3)) :
  Calls Tryz.prog 52 #[.string a0] w fun e w' => ∃ v0_ : Value, e = .returned (.tuple #[v0_, .agg #[.int .i64 r2, .int .i64 r3]]) ∧ Kd.R k46 50 w' w.heap.size (fun _ => True) v0_ r1 ∧ Below w.heap.size w w' := by
 have hu26 := Tryz.underlying40; have hu46 := Tryz.underlying50; have HB := af.mk (Below.refl w.heap.size w); have H : (if (a0.size : Int) > 65536 then (some (([] : List (S46)), 6, 65536)) else (cu.l0 k a0 ([] : List (S46)) 0)) = some (r1, r2, r3) := h; clear h; replace H := sp_ H; obtain ⟨c2, H⟩ | ⟨c2, H⟩ := H
 ·
  have c2b0 := decide_eq_true c2; have c2b1 : decide (65536 < a0.size) = true := decide_eq_true (by omega); clear c2; simp only [Option.some.injEq, Prod.mk.injEq] at H; obtain ⟨rfl, rfl, rfl⟩ := H
  go_enter Tryz.func52, Tryz.ntmps52
  go_wp2_with (first | ((with_reducible refine aA (N := 3) rfl ?_); refine bx_ (N := 3) (cs := #[.int .i64 0, .int .i64 0]) (t := 40) ?_; intro gb136 hg w3 hbox hb; refine df (ah (bl_ HB.1) hb) (hbox) (bz_ (w := w) hg (bl_ HB.1)) (bz_ (w := w) hg (bl_ HB.1)) ?_; clear HB; intro HB BK136 GW136 GE136; clear hb hbox hg; obtain ⟨hcz4_0, hcz4_1, hfz4_0, hfz4_1⟩ := cq2_ BK136.1))
  iterate 3 (try (go_step3; (try go_wp2_with (first | ((with_reducible refine aA (N := 3) rfl ?_); refine bx_ (N := 3) (cs := #[.int .i64 0, .int .i64 0]) (t := 40) ?_; intro gb136 hg w3 hbox hb; refine df (ah (bl_ HB.1) hb) (hbox) (bz_ (w := w) hg (bl_ HB.1)) (bz_ (w := w) hg (bl_ HB.1)) ?_; clear HB; intro HB BK136 GW136 GE136; clear hb hbox hg; obtain ⟨hcz4_0, hcz4_1, hfz4_0, hfz4_1⟩ := cq2_ BK136.1)))))
  (try rw [Exit.noGoto_ret]); refine bodyPost_ret (eF rfl _ _ gb136 40 #[.int .i64 6, .int .i64 65536] (0, 0) _ rfl (by exact gU (bk_ BK136.1)) Tryz.underlying40 rfl (by kernel_rfl)) rfl ?_; exact ⟨_, er_, ni_, bl1_ HB.1 GE136.1⟩
 have c2b0 := decide_eq_false c2; have c2b1 : decide (65536 < a0.size) = false := decide_eq_false (by omega); clear c2; have H' := af.mk H; clear H
 go_enter Tryz.func52, Tryz.ntmps52
 go_wp2_with (first | ((with_reducible refine aA (N := 3) rfl ?_); refine bx_ (N := 3) (cs := #[.int .i64 0, .int .i64 0]) (t := 40) ?_; intro gb136 hg w5 hbox hb; refine df (ah (bl_ HB.1) hb) (hbox) (bz_ (w := w) hg (bl_ HB.1)) (bz_ (w := w) hg (bl_ HB.1)) ?_; clear HB; intro HB BK136 GW136 GE136; clear hb hbox hg))
 iterate 3 (try (go_step3; (try go_wp2_with (first | ((with_reducible refine aA (N := 3) rfl ?_); refine bx_ (N := 3) (cs := #[.int .i64 0, .int .i64 0]) (t := 40) ?_; intro gb136 hg w5 hbox hb; refine df (ah (bl_ HB.1) hb) (hbox) (bz_ (w := w) hg (bl_ HB.1)) (bz_ (w := w) hg (bl_ HB.1)) ?_; clear HB; intro HB BK136 GW136 GE136; clear hb hbox hg)))))
 go_loopg [4, 5] k (fun kq v4 v5 w' => ∃ (x4_1 : List (S46)) (x5_1 : Int) (x137000_1 : Int) (x137001_1 : Int), v5 = .int .i64 x5_1 ∧ af (cu.l0 kq a0 x4_1 x5_1 = some (r1, r2, r3)) ∧ af (kq ≤ k) ∧ af (Kd.R k46 50 w' w.heap.size (fun _ => True) v4 x4_1) ∧ af (w'.heap[gb136]? = some (.cells #[.int .i64 x137000_1, .int .i64 x137001_1] 40 (0, 0))) ∧ af (Below w.heap.size w w'))
 case atStart => exact ⟨(([] : List (S46))), (0), (0), (0), sr_, H', ⟨Nat.le_refl _⟩, ⟨ni_⟩, ⟨bk_ BK136.1⟩, ⟨bl1_ HB.1 GE136.1⟩⟩
 case round =>
  clear H'; (try clear c2); (try clear c2b0); (try clear c2b1); obtain ⟨x4_1, x5_1, x137000_1, x137001_1, rfl, HA, HK1, HO_4, BK136, HB⟩ := hrel; obtain _ | k1 := gk
  · exact absurd HA.1 (by simp [cu.l0])
  have H := HA.1; clear HA; simp only [cu.l0] at H; replace H := bn_ H; obtain ⟨⟨t137, t138, t139, t140, t141, t142, t143⟩, A6, H⟩ := H; (try dsimp only at H); replace H := (sp_ H).symm; obtain ⟨c7, H⟩ | ⟨c7, H⟩ := H
  ·
   have c7b0 := beq_eq_false_iff_ne.mpr c7; have c7b1 := bne_iff_ne.mpr c7; simp only [Option.some.injEq, Prod.mk.injEq] at H; obtain ⟨rfl, rfl, rfl⟩ := H
   try go_wp2_with (first | ((with_reducible refine aj (f := 66) rfl ?_); refine gk_ (some 16) Tryz.func66 (bf.calls k1 a0 x5_1 t137 t138 t139 t140 t141 t142 t143 _ A6.1) ?_; rintro e w31 ⟨rfl, hb⟩; refine ⟨_, rfl, ?_⟩; refine fu (Kd.aW (rR_ HO_4.1) hb) (bb_ BK136.1 hb) (ah (bl1_ HB.1 GE136.1) hb) ?_; clear hb HO_4 BK136 HB; intro HO_4 BK136 HB) | ((with_reducible refine aA (N := 6) rfl ?_); refine bx_ (N := 6) (cs := #[.int .i64 0, .string (⟨#[]⟩ : ByteArray), .int .i64 0, .int .i64 0]) (t := 50) ?_; intro gb144 hg w32 hbox hb; refine jm (Kd.aW (Kd.eG (rR_ HO_4.1) gb144 (Nat.le_of_eq hg.symm)) hb) (bb_ BK136.1 hb) (ah (bl1_ HB.1 GE136.1) hb) (hbox) (bz_ (w := w) hg (bl1_ HB.1 GE136.1)) (bz_ (w := w) hg (bl1_ HB.1 GE136.1)) (nl_ hg BK136.1) (ng_ hg BK136.1) ?_; clear HO_4 BK136 HB; intro HO_4 BK136 HB BK144 GW144 GE144 NB136_144 NB144_136; clear hb hbox hg) | ((with_reducible refine aA (N := 8) rfl ?_); refine bx_ (N := 8) (cs := #[.int .i64 0, .int .i64 0]) (t := 40) ?_; intro gb145 hg w33 hbox hb; refine kr (Kd.aW (rR_ HO_4.1) hb) (bb_ BK136.1 hb) (bb_ BK144.1 hb) (ah (bl2_ HB.1 GE136.1 GE144.1) hb) (hbox) (bz_ (w := w) hg (bl2_ HB.1 GE136.1 GE144.1)) (bz_ (w := w) hg (bl2_ HB.1 GE136.1 GE144.1)) (nl_ hg BK136.1) (ng_ hg BK136.1) (nl_ hg BK144.1) (ng_ hg BK144.1) ?_; clear HO_4 BK136 BK144 HB; intro HO_4 BK136 BK144 HB BK145 GW145 GE145 NB136_145 NB145_136 NB144_145 NB145_144; clear hb hbox hg; have hnb34 := NB144_136.1; have hnc34 := NB136_144.1; have hnb35 := NB144_145.1; have hnc35 := NB145_144.1; obtain ⟨hcz36_0, hcz36_1, hcz36_2, hcz36_3, hfz36_0, hfz36_1, hfz36_2, hfz36_3⟩ := cq4_ BK144.1; have hnb37 := NB145_136.1; have hnc37 := NB136_145.1; obtain ⟨hcz38_0, hcz38_1, hfz38_0, hfz38_1⟩ := cq2_ BK145.1))
   have n0_ : af (Kd.R k46 50 ((((((w33.setCell ⟨gb144, 0, none⟩ (.int .i64 t137)).setCell ⟨gb144, 1, none⟩ (.string t138)).setCell ⟨gb144, 2, none⟩ (.int .i64 t139)).setCell ⟨gb144, 3, none⟩ (.int .i64 t140)).setCell ⟨gb145, 0, none⟩ (.int .i64 t142)).setCell ⟨gb145, 1, none⟩ (.int .i64 t143)) w.heap.size (fun k_ => k_ ≠ gb144) u4 x4_1) := ⟨rR_ (Kd.aQ (rf2_ gb145 (Kd.bR (p := ⟨gb144, 3, none⟩) (Kd.bR (p := ⟨gb144, 2, none⟩) (Kd.bR (p := ⟨gb144, 1, none⟩) (Kd.bR (p := ⟨gb144, 0, none⟩) (Kd.bu (Kd.aQ HO_4.1 (fun k_ hk => (⟨hk, hk.2⟩ : _ ∧ k_ ≠ gb144))) BK145.1 (by decide)) (fun _ hk => hk.1.2) (.int .i64 t137)) (fun _ hk => hk.1.2) (.string t138)) (fun _ hk => hk.1.2) (.int .i64 t139)) (fun _ hk => hk.1.2) (.int .i64 t140))) (fun _ hk => hk.1.1.2))⟩; have n1_ : af (((((((w33.setCell ⟨gb144, 0, none⟩ (.int .i64 t137)).setCell ⟨gb144, 1, none⟩ (.string t138)).setCell ⟨gb144, 2, none⟩ (.int .i64 t139)).setCell ⟨gb144, 3, none⟩ (.int .i64 t140)).setCell ⟨gb145, 0, none⟩ (.int .i64 t142)).setCell ⟨gb145, 1, none⟩ (.int .i64 t143)).heap[gb136]? = some (.cells #[.int .i64 x137000_1, .int .i64 x137001_1] 40 (0, 0))) := ⟨dC (eX (bk_ BK136.1) NB136_144.1) NB136_145.1⟩; have n2_ : af (((((((w33.setCell ⟨gb144, 0, none⟩ (.int .i64 t137)).setCell ⟨gb144, 1, none⟩ (.string t138)).setCell ⟨gb144, 2, none⟩ (.int .i64 t139)).setCell ⟨gb144, 3, none⟩ (.int .i64 t140)).setCell ⟨gb145, 0, none⟩ (.int .i64 t142)).setCell ⟨gb145, 1, none⟩ (.int .i64 t143)).heap[gb144]? = some (.cells #[.int .i64 t137, .string t138, .int .i64 t139, .int .i64 t140] 50 (0, 0))) := ⟨dC (dK (bk_ BK144.1)) NB144_145.1⟩; have n3_ : af (((((((w33.setCell ⟨gb144, 0, none⟩ (.int .i64 t137)).setCell ⟨gb144, 1, none⟩ (.string t138)).setCell ⟨gb144, 2, none⟩ (.int .i64 t139)).setCell ⟨gb144, 3, none⟩ (.int .i64 t140)).setCell ⟨gb145, 0, none⟩ (.int .i64 t142)).setCell ⟨gb145, 1, none⟩ (.int .i64 t143)).heap[gb145]? = some (.cells #[.int .i64 t142, .int .i64 t143] 40 (0, 0))) := ⟨by refine aU (cs := #[.int .i64 t142, .int .i64 0]) ?_ 1 _ rfl; refine aU (cs := #[.int .i64 0, .int .i64 0]) ?_ 0 _ rfl; exact eX (bk_ BK145.1) NB145_144.1⟩; have n4_ : af (Below w.heap.size w ((((((w33.setCell ⟨gb144, 0, none⟩ (.int .i64 t137)).setCell ⟨gb144, 1, none⟩ (.string t138)).setCell ⟨gb144, 2, none⟩ (.int .i64 t139)).setCell ⟨gb144, 3, none⟩ (.int .i64 t140)).setCell ⟨gb145, 0, none⟩ (.int .i64 t142)).setCell ⟨gb145, 1, none⟩ (.int .i64 t143))) := ⟨bl3_ HB.1 GE136.1 GE144.1 GE145.1⟩; (try clear HO_4); (try clear BK136); (try clear BK144); (try clear BK145); (try clear HB); generalize ((((((w33.setCell ⟨gb144, 0, none⟩ (.int .i64 t137)).setCell ⟨gb144, 1, none⟩ (.string t138)).setCell ⟨gb144, 2, none⟩ (.int .i64 t139)).setCell ⟨gb144, 3, none⟩ (.int .i64 t140)).setCell ⟨gb145, 0, none⟩ (.int .i64 t142)).setCell ⟨gb145, 1, none⟩ (.int .i64 t143)) = w39 at n0_ n1_ n2_ n3_ n4_ ⊢; have HO_4 := n0_; have BK136 := n1_; have BK144 := n2_; have BK145 := n3_; have HB := n4_; clear n0_ n1_ n2_ n3_ n4_; refine gm (Kd.dU HO_4.1) (bI BK136.1) (bI BK144.1) (bI BK145.1) (bD HB.1) ?_; clear HO_4 BK136 BK144 BK145 HB; intro HO_4 BK136 BK144 BK145 HB; refine dX (n := 3) (S := fun w' => w'.cell? ⟨gb145, 0, none⟩ = some (.int .i64 t142) ∧ w'.cell? ⟨gb145, 1, none⟩ = some (.int .i64 t143)) (ds := []) #[false, false, false] (by kernel_rfl) rfl rfl ⟨ce_ BK145.1 0, ce_ BK145.1 1⟩ (fun hHeld => ?_); generalize w39.drew = w40 at HO_4 BK136 BK144 BK145 HB hHeld ⊢; refine pr_ (i := 1) (N := some 2) #[false, true, false] (by kernel_rfl) ?_; refine take_ (i := 0) (N := some 23) (v := ?_) (a' := ?_) #[true, true, false] rfl rfl (by kernel_rfl) (fun _ _ _ h => h) (Or.inl ⟨by rfl, ?_⟩) hHeld ?_ ?_; rotate_left
   ·
    rintro w' ⟨s0, s1⟩; go_simp
    with_reducible rfl
   rotate_left
   ·
    simp only [Act.put, List.setIfInBounds_toArray, List.set_cons_zero, List.set_cons_succ, cz, cK]
    rfl
   refine one_ (i := 2) (N := none) #[true, true, true] rfl rfl (by kernel_rfl) (by decide) (fun K hK => ?_); have hs41 : w40.cell? ⟨gb136, 0, none⟩ = some (.int .i64 x137000_1) := (ax BK136.1 0).trans rfl; have hfs41 := aC BK136.1 0; have hns41_1 := NB144_136.1; have hns41_2 := NB145_136.1; have hms41_1 := NB136_144.1; have hms41_2 := NB136_145.1; have hs42 : w40.cell? ⟨gb136, 1, none⟩ = some (.int .i64 x137001_1) := (ax BK136.1 1).trans rfl; have hfs42 := aC BK136.1 1; have hns42_1 := NB144_136.1; have hns42_2 := NB145_136.1; have hms42_1 := NB136_144.1; have hms42_2 := NB136_145.1; refine sk_ ?_; refine hK.out _ _ ⟨(cf2_ gb136 NB145_136.1 hHeld.1), (cf2_ gb136 NB145_136.1 hHeld.2)⟩ (fun hHeld => ?_); clear hK K; refine gB (by kernel_rfl) ?_
   try go_wp2
   iterate 3 (try (go_step3; (try go_wp2)))
   (try rw [Exit.noGoto_ret]); refine bodyPost_ret (eF rfl _ _ gb136 40 #[.int .i64 t142, .int .i64 t143] (0, 0) _ rfl (by exact gU (bk_ BK136.1)) Tryz.underlying40 rfl (by kernel_rfl)) rfl ?_; exact ⟨_, er_, ni_, bl3_ HB.1 GE136.1 GE144.1 GE145.1⟩
  have c7b0 := beq_iff_eq.mpr c7; have c7b1 := bne_eq_false_iff_eq.mpr c7; clear c7; replace H := gp_ H; obtain ⟨c8, H⟩ := H; have LMc8 := af.mk c8; clear c8; obtain ⟨y146, hy146⟩ : ∃ y_ : List (S46), y_ = (x4_1 ++ [(⟨t137, t138, t139, t140⟩ : S46)]) := ⟨_, rfl⟩; replace H : (if t137 = 5 then (some (y146, 0, 0)) else (cu.l0 k1 a0 y146 t141)) = some (r1, r2, r3) := by first | (rw [hy146]; with_reducible exact H) | (have H2_ := (Option.bind_some _ _).symm.trans H; rw [hy146]; with_reducible exact H2_) | (have H2_ := (Option.bind_some _ _).symm.trans H; with_reducible exact H2_) | with_reducible exact H | (rw [hy146]; exact H) | exact H
  have Ny146 := af.mk hy146; clear hy146; replace H := (sp_ H).symm; obtain ⟨c9, H⟩ | ⟨c9, H⟩ := H
  ·
   have c9b0 := beq_eq_false_iff_ne.mpr c9; have c9b1 := bne_iff_ne.mpr c9; have H' := af.mk H; clear H
   go_wp2_with (first | ((with_reducible refine aj (f := 66) rfl ?_); refine gk_ (some 16) Tryz.func66 (bf.calls k1 a0 x5_1 t137 t138 t139 t140 t141 t142 t143 _ A6.1) ?_; rintro e w21 ⟨rfl, hb⟩; refine ⟨_, rfl, ?_⟩; refine fu (Kd.aW (rR_ HO_4.1) hb) (bb_ BK136.1 hb) (ah (bl1_ HB.1 GE136.1) hb) ?_; clear hb HO_4 BK136 HB; intro HO_4 BK136 HB) | ((with_reducible refine aA (N := 6) rfl ?_); refine bx_ (N := 6) (cs := #[.int .i64 0, .string (⟨#[]⟩ : ByteArray), .int .i64 0, .int .i64 0]) (t := 50) ?_; intro gb144 hg w22 hbox hb; refine jm (Kd.aW (Kd.eG (rR_ HO_4.1) gb144 (Nat.le_of_eq hg.symm)) hb) (bb_ BK136.1 hb) (ah (bl1_ HB.1 GE136.1) hb) (hbox) (bz_ (w := w) hg (bl1_ HB.1 GE136.1)) (bz_ (w := w) hg (bl1_ HB.1 GE136.1)) (nl_ hg BK136.1) (ng_ hg BK136.1) ?_; clear HO_4 BK136 HB; intro HO_4 BK136 HB BK144 GW144 GE144 NB136_144 NB144_136; clear hb hbox hg) | ((with_reducible refine aA (N := 8) rfl ?_); refine bx_ (N := 8) (cs := #[.int .i64 0, .int .i64 0]) (t := 40) ?_; intro gb145 hg w23 hbox hb; refine kr (Kd.aW (rR_ HO_4.1) hb) (bb_ BK136.1 hb) (bb_ BK144.1 hb) (ah (bl2_ HB.1 GE136.1 GE144.1) hb) (hbox) (bz_ (w := w) hg (bl2_ HB.1 GE136.1 GE144.1)) (bz_ (w := w) hg (bl2_ HB.1 GE136.1 GE144.1)) (nl_ hg BK136.1) (ng_ hg BK136.1) (nl_ hg BK144.1) (ng_ hg BK144.1) ?_; clear HO_4 BK136 BK144 HB; intro HO_4 BK136 BK144 HB BK145 GW145 GE145 NB136_145 NB145_136 NB144_145 NB145_144; clear hb hbox hg; have hnb24 := NB144_136.1; have hnc24 := NB136_144.1; have hnb25 := NB144_145.1; have hnc25 := NB145_144.1; obtain ⟨hcz26_0, hcz26_1, hcz26_2, hcz26_3, hfz26_0, hfz26_1, hfz26_2, hfz26_3⟩ := cq4_ BK144.1; have hnb27 := NB145_136.1; have hnc27 := NB136_145.1; obtain ⟨hcz28_0, hcz28_1, hfz28_0, hfz28_1⟩ := cq2_ BK145.1) | ((with_reducible refine fw (b := .append) (xs := #[.tmp 24, .tmp 26]) rfl ?_); at_builtin; refine Kd.iD k46 (w0 := w) w.heap.size rfl (.tmp 24) (.tmp 26) 22 50 (.agg #[(.int .i64 0), (.string ⟨#[]⟩), (.int .i64 0), (.int .i64 0)]) 40 rfl Tryz.underlying22 kK rfl (by decide) (by omega) u4 x4_1 (⟨t137, t138, t139, t140⟩ : S46) [.int .i64 t137, .string t138, .int .i64 t139, .int .i64 t140] (fun k_ => k_ ≠ gb144) (fun _ => False) rfl (by first | (go_simp; done) | (go_simp; rfl)) ?aP (fun _ hk => hk.elim) ?aF ?aO ?aB ?aS ?aL ?_; (case aP => exact jD _ _ _ (⟨t137, t138, t139, t140⟩ : S46)); (case aB => exact (bl3_ HB.1 GE136.1 GE144.1 GE145.1)); (case aF => exact (fun k_ hk => Kd.jq (g := gb144) (o := .cells #[.int .i64 t137, .string t138, .int .i64 t139, .int .i64 t140] 50 (0, 0)) (by exact dC (dK (bk_ BK144.1)) NB144_145.1) k_ hk)); (case aO => exact (rR_ (Kd.aQ (rf2_ gb145 (Kd.bR (p := ⟨gb144, 3, none⟩) (Kd.bR (p := ⟨gb144, 2, none⟩) (Kd.bR (p := ⟨gb144, 1, none⟩) (Kd.bR (p := ⟨gb144, 0, none⟩) (Kd.bu (Kd.aQ HO_4.1 (fun k_ hk => (⟨hk, hk.2⟩ : _ ∧ k_ ≠ gb144))) BK145.1 (by decide)) (fun _ hk => hk.1.2) (.int .i64 t137)) (fun _ hk => hk.1.2) (.string t138)) (fun _ hk => hk.1.2) (.int .i64 t139)) (fun _ hk => hk.1.2) (.int .i64 t140))) (fun _ hk => hk.1.1.2)))); (case aS => exact (bH (bl3_ HB.1 GE136.1 GE144.1 GE145.1))); (case aL => have := LMc8.1; omega); intro v147 w29 ho hb hg hat; rw [← Ny146.1] at ho; refine gm (bX (g := gb136) (o := .cells #[.int .i64 x137000_1, .int .i64 x137001_1] 40 (0, 0)) (by exact dC (eX (bk_ BK136.1) NB136_144.1) NB136_145.1) hg (Kd.R_ne HO_4.1 BK136.1 (by decide))) (bX (g := gb144) (o := .cells #[.int .i64 t137, .string t138, .int .i64 t139, .int .i64 t140] 50 (0, 0)) (by exact dC (dK (bk_ BK144.1)) NB144_145.1) hg (Kd.jQ HO_4.1 (fun _ hk => hk.2))) (bX (g := gb145) (o := .cells #[.int .i64 t142, .int .i64 t143] 40 (0, 0)) (by refine aU (cs := #[.int .i64 t142, .int .i64 0]) ?_ 1 _ rfl; refine aU (cs := #[.int .i64 0, .int .i64 0]) ?_ 0 _ rfl; exact eX (bk_ BK145.1) NB145_144.1) hg (Kd.R_ne HO_4.1 BK145.1 (by decide))) (hb) (ho) ?_; clear BK136 BK144 BK145 HB HO_4; intro BK136 BK144 BK145 HB HO148; clear ho hb hg hat; obtain ⟨hcz30_0, hcz30_1, hcz30_2, hcz30_3, hfz30_0, hfz30_1, hfz30_2, hfz30_3⟩ := cq4_ BK144.1))
   iterate 3 (try (go_step3; (try go_wp2_with (first | ((with_reducible refine aj (f := 66) rfl ?_); refine gk_ (some 16) Tryz.func66 (bf.calls k1 a0 x5_1 t137 t138 t139 t140 t141 t142 t143 _ A6.1) ?_; rintro e w21 ⟨rfl, hb⟩; refine ⟨_, rfl, ?_⟩; refine fu (Kd.aW (rR_ HO_4.1) hb) (bb_ BK136.1 hb) (ah (bl1_ HB.1 GE136.1) hb) ?_; clear hb HO_4 BK136 HB; intro HO_4 BK136 HB) | ((with_reducible refine aA (N := 6) rfl ?_); refine bx_ (N := 6) (cs := #[.int .i64 0, .string (⟨#[]⟩ : ByteArray), .int .i64 0, .int .i64 0]) (t := 50) ?_; intro gb144 hg w22 hbox hb; refine jm (Kd.aW (Kd.eG (rR_ HO_4.1) gb144 (Nat.le_of_eq hg.symm)) hb) (bb_ BK136.1 hb) (ah (bl1_ HB.1 GE136.1) hb) (hbox) (bz_ (w := w) hg (bl1_ HB.1 GE136.1)) (bz_ (w := w) hg (bl1_ HB.1 GE136.1)) (nl_ hg BK136.1) (ng_ hg BK136.1) ?_; clear HO_4 BK136 HB; intro HO_4 BK136 HB BK144 GW144 GE144 NB136_144 NB144_136; clear hb hbox hg) | ((with_reducible refine aA (N := 8) rfl ?_); refine bx_ (N := 8) (cs := #[.int .i64 0, .int .i64 0]) (t := 40) ?_; intro gb145 hg w23 hbox hb; refine kr (Kd.aW (rR_ HO_4.1) hb) (bb_ BK136.1 hb) (bb_ BK144.1 hb) (ah (bl2_ HB.1 GE136.1 GE144.1) hb) (hbox) (bz_ (w := w) hg (bl2_ HB.1 GE136.1 GE144.1)) (bz_ (w := w) hg (bl2_ HB.1 GE136.1 GE144.1)) (nl_ hg BK136.1) (ng_ hg BK136.1) (nl_ hg BK144.1) (ng_ hg BK144.1) ?_; clear HO_4 BK136 BK144 HB; intro HO_4 BK136 BK144 HB BK145 GW145 GE145 NB136_145 NB145_136 NB144_145 NB145_144; clear hb hbox hg; have hnb24 := NB144_136.1; have hnc24 := NB136_144.1; have hnb25 := NB144_145.1; have hnc25 := NB145_144.1; obtain ⟨hcz26_0, hcz26_1, hcz26_2, hcz26_3, hfz26_0, hfz26_1, hfz26_2, hfz26_3⟩ := cq4_ BK144.1; have hnb27 := NB145_136.1; have hnc27 := NB136_145.1; obtain ⟨hcz28_0, hcz28_1, hfz28_0, hfz28_1⟩ := cq2_ BK145.1) | ((with_reducible refine fw (b := .append) (xs := #[.tmp 24, .tmp 26]) rfl ?_); at_builtin; refine Kd.iD k46 (w0 := w) w.heap.size rfl (.tmp 24) (.tmp 26) 22 50 (.agg #[(.int .i64 0), (.string ⟨#[]⟩), (.int .i64 0), (.int .i64 0)]) 40 rfl Tryz.underlying22 kK rfl (by decide) (by omega) u4 x4_1 (⟨t137, t138, t139, t140⟩ : S46) [.int .i64 t137, .string t138, .int .i64 t139, .int .i64 t140] (fun k_ => k_ ≠ gb144) (fun _ => False) rfl (by first | (go_simp; done) | (go_simp; rfl)) ?aP (fun _ hk => hk.elim) ?aF ?aO ?aB ?aS ?aL ?_; (case aP => exact jD _ _ _ (⟨t137, t138, t139, t140⟩ : S46)); (case aB => exact (bl3_ HB.1 GE136.1 GE144.1 GE145.1)); (case aF => exact (fun k_ hk => Kd.jq (g := gb144) (o := .cells #[.int .i64 t137, .string t138, .int .i64 t139, .int .i64 t140] 50 (0, 0)) (by exact dC (dK (bk_ BK144.1)) NB144_145.1) k_ hk)); (case aO => exact (rR_ (Kd.aQ (rf2_ gb145 (Kd.bR (p := ⟨gb144, 3, none⟩) (Kd.bR (p := ⟨gb144, 2, none⟩) (Kd.bR (p := ⟨gb144, 1, none⟩) (Kd.bR (p := ⟨gb144, 0, none⟩) (Kd.bu (Kd.aQ HO_4.1 (fun k_ hk => (⟨hk, hk.2⟩ : _ ∧ k_ ≠ gb144))) BK145.1 (by decide)) (fun _ hk => hk.1.2) (.int .i64 t137)) (fun _ hk => hk.1.2) (.string t138)) (fun _ hk => hk.1.2) (.int .i64 t139)) (fun _ hk => hk.1.2) (.int .i64 t140))) (fun _ hk => hk.1.1.2)))); (case aS => exact (bH (bl3_ HB.1 GE136.1 GE144.1 GE145.1))); (case aL => have := LMc8.1; omega); intro v147 w29 ho hb hg hat; rw [← Ny146.1] at ho; refine gm (bX (g := gb136) (o := .cells #[.int .i64 x137000_1, .int .i64 x137001_1] 40 (0, 0)) (by exact dC (eX (bk_ BK136.1) NB136_144.1) NB136_145.1) hg (Kd.R_ne HO_4.1 BK136.1 (by decide))) (bX (g := gb144) (o := .cells #[.int .i64 t137, .string t138, .int .i64 t139, .int .i64 t140] 50 (0, 0)) (by exact dC (dK (bk_ BK144.1)) NB144_145.1) hg (Kd.jQ HO_4.1 (fun _ hk => hk.2))) (bX (g := gb145) (o := .cells #[.int .i64 t142, .int .i64 t143] 40 (0, 0)) (by refine aU (cs := #[.int .i64 t142, .int .i64 0]) ?_ 1 _ rfl; refine aU (cs := #[.int .i64 0, .int .i64 0]) ?_ 0 _ rfl; exact eX (bk_ BK145.1) NB145_144.1) hg (Kd.R_ne HO_4.1 BK145.1 (by decide))) (hb) (ho) ?_; clear BK136 BK144 BK145 HB HO_4; intro BK136 BK144 BK145 HB HO148; clear ho hb hg hat; obtain ⟨hcz30_0, hcz30_1, hcz30_2, hcz30_3, hfz30_0, hfz30_1, hfz30_2, hfz30_3⟩ := cq4_ BK144.1)))))
   go_roundg k1
   case measure => have := HK1.1; omega
   case rel => exact ⟨(y146), (t141), (x137000_1), (x137001_1), sr_, H', ⟨om_ HK1.1⟩, ⟨rR_ (Kd.aQ HO148.1 (fun _ hk => trivial))⟩, ⟨bk_ BK136.1⟩, ⟨bl3_ HB.1 GE136.1 GE144.1 GE145.1⟩⟩
  have c9b0 := beq_iff_eq.mpr c9; have c9b1 := bne_eq_false_iff_eq.mpr c9; clear c9; simp only [Option.some.injEq, Prod.mk.injEq] at H; obtain ⟨rfl, rfl, rfl⟩ := H
  go_wp2_with (first | ((with_reducible refine aj (f := 66) rfl ?_); refine gk_ (some 16) Tryz.func66 (bf.calls k1 a0 x5_1 t137 t138 t139 t140 t141 t142 t143 _ A6.1) ?_; rintro e w10 ⟨rfl, hb⟩; refine ⟨_, rfl, ?_⟩; refine fu (Kd.aW (rR_ HO_4.1) hb) (bb_ BK136.1 hb) (ah (bl1_ HB.1 GE136.1) hb) ?_; clear hb HO_4 BK136 HB; intro HO_4 BK136 HB) | ((with_reducible refine aA (N := 6) rfl ?_); refine bx_ (N := 6) (cs := #[.int .i64 0, .string (⟨#[]⟩ : ByteArray), .int .i64 0, .int .i64 0]) (t := 50) ?_; intro gb144 hg w11 hbox hb; refine jm (Kd.aW (Kd.eG (rR_ HO_4.1) gb144 (Nat.le_of_eq hg.symm)) hb) (bb_ BK136.1 hb) (ah (bl1_ HB.1 GE136.1) hb) (hbox) (bz_ (w := w) hg (bl1_ HB.1 GE136.1)) (bz_ (w := w) hg (bl1_ HB.1 GE136.1)) (nl_ hg BK136.1) (ng_ hg BK136.1) ?_; clear HO_4 BK136 HB; intro HO_4 BK136 HB BK144 GW144 GE144 NB136_144 NB144_136; clear hb hbox hg) | ((with_reducible refine aA (N := 8) rfl ?_); refine bx_ (N := 8) (cs := #[.int .i64 0, .int .i64 0]) (t := 40) ?_; intro gb145 hg w12 hbox hb; refine kr (Kd.aW (rR_ HO_4.1) hb) (bb_ BK136.1 hb) (bb_ BK144.1 hb) (ah (bl2_ HB.1 GE136.1 GE144.1) hb) (hbox) (bz_ (w := w) hg (bl2_ HB.1 GE136.1 GE144.1)) (bz_ (w := w) hg (bl2_ HB.1 GE136.1 GE144.1)) (nl_ hg BK136.1) (ng_ hg BK136.1) (nl_ hg BK144.1) (ng_ hg BK144.1) ?_; clear HO_4 BK136 BK144 HB; intro HO_4 BK136 BK144 HB BK145 GW145 GE145 NB136_145 NB145_136 NB144_145 NB145_144; clear hb hbox hg; have hnb13 := NB144_136.1; have hnc13 := NB136_144.1; have hnb14 := NB144_145.1; have hnc14 := NB145_144.1; obtain ⟨hcz15_0, hcz15_1, hcz15_2, hcz15_3, hfz15_0, hfz15_1, hfz15_2, hfz15_3⟩ := cq4_ BK144.1; have hnb16 := NB145_136.1; have hnc16 := NB136_145.1; obtain ⟨hcz17_0, hcz17_1, hfz17_0, hfz17_1⟩ := cq2_ BK145.1) | ((with_reducible refine fw (b := .append) (xs := #[.tmp 24, .tmp 26]) rfl ?_); at_builtin; refine Kd.iD k46 (w0 := w) w.heap.size rfl (.tmp 24) (.tmp 26) 22 50 (.agg #[(.int .i64 0), (.string ⟨#[]⟩), (.int .i64 0), (.int .i64 0)]) 40 rfl Tryz.underlying22 kK rfl (by decide) (by omega) u4 x4_1 (⟨t137, t138, t139, t140⟩ : S46) [.int .i64 t137, .string t138, .int .i64 t139, .int .i64 t140] (fun k_ => k_ ≠ gb144) (fun _ => False) rfl (by first | (go_simp; done) | (go_simp; rfl)) ?aP (fun _ hk => hk.elim) ?aF ?aO ?aB ?aS ?aL ?_; (case aP => exact jD _ _ _ (⟨t137, t138, t139, t140⟩ : S46)); (case aB => exact (bl3_ HB.1 GE136.1 GE144.1 GE145.1)); (case aF => exact (fun k_ hk => Kd.jq (g := gb144) (o := .cells #[.int .i64 t137, .string t138, .int .i64 t139, .int .i64 t140] 50 (0, 0)) (by exact dC (dK (bk_ BK144.1)) NB144_145.1) k_ hk)); (case aO => exact (rR_ (Kd.aQ (rf2_ gb145 (Kd.bR (p := ⟨gb144, 3, none⟩) (Kd.bR (p := ⟨gb144, 2, none⟩) (Kd.bR (p := ⟨gb144, 1, none⟩) (Kd.bR (p := ⟨gb144, 0, none⟩) (Kd.bu (Kd.aQ HO_4.1 (fun k_ hk => (⟨hk, hk.2⟩ : _ ∧ k_ ≠ gb144))) BK145.1 (by decide)) (fun _ hk => hk.1.2) (.int .i64 t137)) (fun _ hk => hk.1.2) (.string t138)) (fun _ hk => hk.1.2) (.int .i64 t139)) (fun _ hk => hk.1.2) (.int .i64 t140))) (fun _ hk => hk.1.1.2)))); (case aS => exact (bH (bl3_ HB.1 GE136.1 GE144.1 GE145.1))); (case aL => have := LMc8.1; omega); intro v147 w18 ho hb hg hat; rw [← Ny146.1] at ho; refine gm (bX (g := gb136) (o := .cells #[.int .i64 x137000_1, .int .i64 x137001_1] 40 (0, 0)) (by exact dC (eX (bk_ BK136.1) NB136_144.1) NB136_145.1) hg (Kd.R_ne HO_4.1 BK136.1 (by decide))) (bX (g := gb144) (o := .cells #[.int .i64 t137, .string t138, .int .i64 t139, .int .i64 t140] 50 (0, 0)) (by exact dC (dK (bk_ BK144.1)) NB144_145.1) hg (Kd.jQ HO_4.1 (fun _ hk => hk.2))) (bX (g := gb145) (o := .cells #[.int .i64 t142, .int .i64 t143] 40 (0, 0)) (by refine aU (cs := #[.int .i64 t142, .int .i64 0]) ?_ 1 _ rfl; refine aU (cs := #[.int .i64 0, .int .i64 0]) ?_ 0 _ rfl; exact eX (bk_ BK145.1) NB145_144.1) hg (Kd.R_ne HO_4.1 BK145.1 (by decide))) (hb) (ho) ?_; clear BK136 BK144 BK145 HB HO_4; intro BK136 BK144 BK145 HB HO148; clear ho hb hg hat; obtain ⟨hcz19_0, hcz19_1, hcz19_2, hcz19_3, hfz19_0, hfz19_1, hfz19_2, hfz19_3⟩ := cq4_ BK144.1; obtain ⟨hcz20_0, hcz20_1, hfz20_0, hfz20_1⟩ := cq2_ BK136.1))
  iterate 3 (try (go_step3; (try go_wp2_with (first | ((with_reducible refine aj (f := 66) rfl ?_); refine gk_ (some 16) Tryz.func66 (bf.calls k1 a0 x5_1 t137 t138 t139 t140 t141 t142 t143 _ A6.1) ?_; rintro e w10 ⟨rfl, hb⟩; refine ⟨_, rfl, ?_⟩; refine fu (Kd.aW (rR_ HO_4.1) hb) (bb_ BK136.1 hb) (ah (bl1_ HB.1 GE136.1) hb) ?_; clear hb HO_4 BK136 HB; intro HO_4 BK136 HB) | ((with_reducible refine aA (N := 6) rfl ?_); refine bx_ (N := 6) (cs := #[.int .i64 0, .string (⟨#[]⟩ : ByteArray), .int .i64 0, .int .i64 0]) (t := 50) ?_; intro gb144 hg w11 hbox hb; refine jm (Kd.aW (Kd.eG (rR_ HO_4.1) gb144 (Nat.le_of_eq hg.symm)) hb) (bb_ BK136.1 hb) (ah (bl1_ HB.1 GE136.1) hb) (hbox) (bz_ (w := w) hg (bl1_ HB.1 GE136.1)) (bz_ (w := w) hg (bl1_ HB.1 GE136.1)) (nl_ hg BK136.1) (ng_ hg BK136.1) ?_; clear HO_4 BK136 HB; intro HO_4 BK136 HB BK144 GW144 GE144 NB136_144 NB144_136; clear hb hbox hg) | ((with_reducible refine aA (N := 8) rfl ?_); refine bx_ (N := 8) (cs := #[.int .i64 0, .int .i64 0]) (t := 40) ?_; intro gb145 hg w12 hbox hb; refine kr (Kd.aW (rR_ HO_4.1) hb) (bb_ BK136.1 hb) (bb_ BK144.1 hb) (ah (bl2_ HB.1 GE136.1 GE144.1) hb) (hbox) (bz_ (w := w) hg (bl2_ HB.1 GE136.1 GE144.1)) (bz_ (w := w) hg (bl2_ HB.1 GE136.1 GE144.1)) (nl_ hg BK136.1) (ng_ hg BK136.1) (nl_ hg BK144.1) (ng_ hg BK144.1) ?_; clear HO_4 BK136 BK144 HB; intro HO_4 BK136 BK144 HB BK145 GW145 GE145 NB136_145 NB145_136 NB144_145 NB145_144; clear hb hbox hg; have hnb13 := NB144_136.1; have hnc13 := NB136_144.1; have hnb14 := NB144_145.1; have hnc14 := NB145_144.1; obtain ⟨hcz15_0, hcz15_1, hcz15_2, hcz15_3, hfz15_0, hfz15_1, hfz15_2, hfz15_3⟩ := cq4_ BK144.1; have hnb16 := NB145_136.1; have hnc16 := NB136_145.1; obtain ⟨hcz17_0, hcz17_1, hfz17_0, hfz17_1⟩ := cq2_ BK145.1) | ((with_reducible refine fw (b := .append) (xs := #[.tmp 24, .tmp 26]) rfl ?_); at_builtin; refine Kd.iD k46 (w0 := w) w.heap.size rfl (.tmp 24) (.tmp 26) 22 50 (.agg #[(.int .i64 0), (.string ⟨#[]⟩), (.int .i64 0), (.int .i64 0)]) 40 rfl Tryz.underlying22 kK rfl (by decide) (by omega) u4 x4_1 (⟨t137, t138, t139, t140⟩ : S46) [.int .i64 t137, .string t138, .int .i64 t139, .int .i64 t140] (fun k_ => k_ ≠ gb144) (fun _ => False) rfl (by first | (go_simp; done) | (go_simp; rfl)) ?aP (fun _ hk => hk.elim) ?aF ?aO ?aB ?aS ?aL ?_; (case aP => exact jD _ _ _ (⟨t137, t138, t139, t140⟩ : S46)); (case aB => exact (bl3_ HB.1 GE136.1 GE144.1 GE145.1)); (case aF => exact (fun k_ hk => Kd.jq (g := gb144) (o := .cells #[.int .i64 t137, .string t138, .int .i64 t139, .int .i64 t140] 50 (0, 0)) (by exact dC (dK (bk_ BK144.1)) NB144_145.1) k_ hk)); (case aO => exact (rR_ (Kd.aQ (rf2_ gb145 (Kd.bR (p := ⟨gb144, 3, none⟩) (Kd.bR (p := ⟨gb144, 2, none⟩) (Kd.bR (p := ⟨gb144, 1, none⟩) (Kd.bR (p := ⟨gb144, 0, none⟩) (Kd.bu (Kd.aQ HO_4.1 (fun k_ hk => (⟨hk, hk.2⟩ : _ ∧ k_ ≠ gb144))) BK145.1 (by decide)) (fun _ hk => hk.1.2) (.int .i64 t137)) (fun _ hk => hk.1.2) (.string t138)) (fun _ hk => hk.1.2) (.int .i64 t139)) (fun _ hk => hk.1.2) (.int .i64 t140))) (fun _ hk => hk.1.1.2)))); (case aS => exact (bH (bl3_ HB.1 GE136.1 GE144.1 GE145.1))); (case aL => have := LMc8.1; omega); intro v147 w18 ho hb hg hat; rw [← Ny146.1] at ho; refine gm (bX (g := gb136) (o := .cells #[.int .i64 x137000_1, .int .i64 x137001_1] 40 (0, 0)) (by exact dC (eX (bk_ BK136.1) NB136_144.1) NB136_145.1) hg (Kd.R_ne HO_4.1 BK136.1 (by decide))) (bX (g := gb144) (o := .cells #[.int .i64 t137, .string t138, .int .i64 t139, .int .i64 t140] 50 (0, 0)) (by exact dC (dK (bk_ BK144.1)) NB144_145.1) hg (Kd.jQ HO_4.1 (fun _ hk => hk.2))) (bX (g := gb145) (o := .cells #[.int .i64 t142, .int .i64 t143] 40 (0, 0)) (by refine aU (cs := #[.int .i64 t142, .int .i64 0]) ?_ 1 _ rfl; refine aU (cs := #[.int .i64 0, .int .i64 0]) ?_ 0 _ rfl; exact eX (bk_ BK145.1) NB145_144.1) hg (Kd.R_ne HO_4.1 BK145.1 (by decide))) (hb) (ho) ?_; clear BK136 BK144 BK145 HB HO_4; intro BK136 BK144 BK145 HB HO148; clear ho hb hg hat; obtain ⟨hcz19_0, hcz19_1, hcz19_2, hcz19_3, hfz19_0, hfz19_1, hfz19_2, hfz19_3⟩ := cq4_ BK144.1; obtain ⟨hcz20_0, hcz20_1, hfz20_0, hfz20_1⟩ := cq2_ BK136.1)))))
  (try rw [Exit.noGoto_ret]); refine bodyPost_ret (eF rfl _ _ gb136 40 #[.int .i64 0, .int .i64 0] (0, 0) _ rfl (by exact gU (bk_ BK136.1)) Tryz.underlying40 rfl (by kernel_rfl)) rfl ?_; exact ⟨_, er_, rR_ (Kd.aQ (rf2_ gb136 (Kd.bu HO148.1 BK136.1 (by decide))) (fun _ hk => trivial)), bl3_ HB.1 GE136.1 GE144.1 GE145.1⟩
end Go.Proofs.YtkifdadhojbohaaGreatDoor.Pr
namespace Go.Proofs.YtkifdadhojbohaaGreatDoor.Pu
open Go.RowKit Go.Proofs.YtkifdadhojbohaaGreatDoor Go.Proofs.YtkifdadhojbohaaGreatDoor.Pr Go.Proofs.YtkifdadhojbohaaGreatDoorW.PrintWords Go.Proofs.YtkifdadhojbohaaGreatDoorW.PrintLast
theorem run_f (s : ByteArray) (hs : s.size ≤ 1000000) :
    Ev (fun k => fE.f k s) (if (numL (lst s)).2 = 2 then (1, s, 0, 0, wordL (lst s)) else (2, ⟨#[]⟩, (numL (lst s)).1, 0, (numL (lst s)).2)) := by
  unfold fE.f
  refine Ev.bind (number_f s hs) ?_
  by_cases h : (numL (lst s)).2 = 2
  · refine Ev.ifp h ?_
    rw [if_pos h]
    exact Ev.bind (word_f s hs) (Ev.now _)
  · refine Ev.ifn h ?_
    rw [if_neg h]
    exact Ev.now _
theorem text_loop (s : ByteArray) (hs : s.size ≤ 1000000) (o : Nat) : ∀ (d i : Nat) (l : List UInt8), o < i → i ≤ s.size → s.size - i = d → (lst s).drop i = l →
    (∀ c ∈ ((lst s).take i).drop (o + 1), fG c = true) →
    Ev (fun k => bT.l0 k s o i) (match l.dropWhile fG with
      | [] => (0, ⟨#[]⟩, 0, 0, 0, 2)
      | c :: r => if c.toNat = 34 then (3, str (((lst s).take i).drop (o + 1) ++ l.takeWhile fG), 0, 0, (s.size : Int) - r.length, iU (((lst s).take i).drop (o + 1) ++ l.takeWhile fG)) else (0, ⟨#[]⟩, 0, 0, 0, 2)) := by
  intro d
  induction d with
  | zero =>
    intro i l ho hi hd hl hin
    obtain rfl : i = s.size := by omega
    obtain rfl : l = [] := by rw [← hl]; exact List.drop_eq_nil_of_le (by rw [aI]; omega)
    refine Ev.succ ?_
    simp only [bT.l0]
    refine Ev.ifn (by omega) (Ev.ifp (by simp) ?_)
    simp only [List.dropWhile_nil]
    exact Ev.now _
  | succ d ih =>
    intro i l ho hi hd hl hin
    cases l with
    | nil => exact absurd (at_nil hi hl) (by omega)
    | cons c l =>
      obtain ⟨h1, h2, h3⟩ := gp hl
      refine Ev.succ ?_
      simp only [bT.l0]
      rw [h2, bU i (by omega), bU o (by omega)]
      refine Ev.ifp (by omega) (Ev.ifp (by omega) ?_)
      by_cases h34 : c.toNat = 34
      · have hin' : fG c = false := by simp [fG, h34]
        refine Ev.ifp (by omega) (Ev.ifn (by omega) (Ev.ifn (by omega) (Ev.ifp (by omega) (Ev.ifp (by omega) (Ev.ifp (by omega) ?_)))))
        have hx : s.extract (((o + 1 : Nat) : Int)).toNat ((i : Int)).toNat = str (((lst s).take i).drop (o + 1)) := by
          apply ic; rw [eO]; rfl
        rw [hx]
        have ht := title_f (str (((lst s).take i).drop (o + 1))) (by rw [dY, List.length_drop, List.length_take, aI]; omega)
        refine Ev.bind ht (Ev.ret ?_)
        rw [List.dropWhile_cons_of_neg (by simp [hin']), List.takeWhile_cons_of_neg (by simp [hin']), List.append_nil]
        simp only [h34, if_true, gM]
        have hr : (s.size : Int) - (l.length : Int) = ((i + 1 : Nat) : Int) := by
          rw [← h3, List.length_drop, aI]; omega
        rw [hr]
      · refine Ev.ifn (by omega) ?_
        by_cases h10 : c.toNat = 10
        · have hin' : fG c = false := by simp [fG, h10]
          refine Ev.ifp (by omega) (Ev.ifn (by omega) (Ev.ret ?_))
          rw [List.dropWhile_cons_of_neg (by simp [hin'])]
          simp only [h34, if_false]
        · have hin' : fG c = true := by simp [fG, h34, h10]
          refine Ev.ifn (by omega) ?_
          have htk : ((lst s).take (i + 1)).drop (o + 1) = ((lst s).take i).drop (o + 1) ++ [c] := by
            have e : (lst s).take (i + 1) = (lst s).take i ++ [c] := by
              rw [List.take_succ_eq_append_getElem (by rw [aI]; exact h1)]
              congr 2
              have := congrArg (·[0]?) hl
              simp only [List.getElem?_drop, Nat.add_zero, List.getElem?_cons_zero] at this
              exact (List.getElem?_eq_some_iff.1 this).2
            rw [e, List.drop_append_of_le_length (by rw [List.length_take, aI]; omega)]
          have := ih (i + 1) l (by omega) (by omega) (by omega) h3 (by
            rw [htk]; intro x hx; rw [List.mem_append] at hx
            rcases hx with hx | hx
            · exact hin x hx
            · simp at hx; subst hx; exact hin')
          rw [htk] at this
          rw [List.dropWhile_cons_of_pos hin', List.takeWhile_cons_of_pos hin']
          simpa only [List.append_assoc, List.singleton_append] using this
theorem text_f (s : ByteArray) (hs : s.size ≤ 1000000) (o : Nat) (l : List UInt8) (ho : o < s.size) (hl : (lst s).drop (o + 1) = l) :
    Ev (fun k => bT.f k s o) ((gQ l).kind, str (gQ l).text, 0, 0, (if (gQ l).kind = 3 then (s.size : Int) - (gQ l).rest.length else 0), (gQ l).code) := by
  have h := text_loop s hs o _ (o + 1) l (by omega) (by omega) rfl hl (by
    rw [List.drop_eq_nil_of_le (by rw [List.length_take]; omega)]; simp)
  unfold bT.f
  rw [bU o (by omega)]
  rw [List.drop_eq_nil_of_le (by rw [List.length_take]; omega)] at h
  simp only [List.nil_append] at h
  unfold gQ
  cases hd : l.dropWhile fG with
  | nil => rw [hd] at h; exact h
  | cons c r =>
    rw [hd] at h
    by_cases h34 : c.toNat = 34
    · simp only [h34, if_true] at h ⊢; exact h
    · simp only [h34, if_false] at h ⊢; exact h
def nextT (n : Nat) (l : List UInt8) : Int × ByteArray × Int × Int × Int × Int × Int :=
  if (tokL l).code = 0 then ((tokL l).kind, str (tokL l).text, (tokL l).n, (n : Int) - l.length, (n : Int) - (tokL l).rest.length, 0, 0)
  else (0, ⟨#[]⟩, 0, 0, 0, (tokL l).code, (n : Int) - l.length)
theorem j2_f (a e c : Int) (k : Int) (x : ByteArray) (m z : Int) : Ev (fun r => bf.j2 r a e c k x m z) (if c = 0 then (k, x, m, a, e, 0, 0) else (0, ⟨#[]⟩, 0, 0, 0, c, a)) := by
  refine Ev.succ ?_
  simp only [bf.j2]
  by_cases h : c = 0
  · exact Ev.ifp h (Ev.ret (by rw [if_pos h]))
  · exact Ev.ifn h (Ev.ret (by rw [if_neg h]))
theorem next_loop (s : ByteArray) (hs : s.size ≤ 1000000) (o : Nat) : ∀ (d i : Nat) (l : List UInt8), o ≤ i → i ≤ s.size → s.size - i = d → (lst s).drop i = l →
    Ev (fun k => bf.l0 k s o i) (let t := ((lst s).take i).drop o ++ l.takeWhile bQ
      let r := clsL t (l.dropWhile bQ)
      if r.code = 0 then (r.kind, str r.text, r.n, (o : Int), (s.size : Int) - r.rest.length, 0, 0) else (0, ⟨#[]⟩, 0, 0, 0, r.code, (o : Int))) := by
  have hj1 : ∀ (i : Nat) (l : List UInt8), o ≤ i → i ≤ s.size → (lst s).drop i = l → l.takeWhile bQ = [] → l.dropWhile bQ = l → Ev (fun k => bf.j1 k s o i) (let t := ((lst s).take i).drop o ++ l.takeWhile bQ
      let r := clsL t (l.dropWhile bQ)
      if r.code = 0 then (r.kind, str r.text, r.n, (o : Int), (s.size : Int) - r.rest.length, 0, 0) else (0, ⟨#[]⟩, 0, 0, 0, r.code, (o : Int))) := by
    intro i l ho hi hl ht hr
    rw [ht, hr]
    refine Ev.succ ?_
    simp only [bf.j1]
    refine Ev.ifp (by omega) (Ev.ifp (by omega) (Ev.ifp (by omega) ?_))
    have hx : s.extract ((o : Int)).toNat ((i : Int)).toNat = str (((lst s).take i).drop o) := by
      apply ic; rw [eO]; rfl
    rw [hx]
    have hrun := run_f (str (((lst s).take i).drop o)) (by rw [dY, List.length_drop, List.length_take, aI]; omega)
    refine Ev.bind hrun ?_
    simp only [gM, List.append_nil]
    have hlen : (i : Int) = (s.size : Int) - (l.length : Int) := by rw [← hl, List.length_drop, aI]; omega
    unfold clsL
    by_cases h2 : (numL (((lst s).take i).drop o)).2 = 2
    · simp only [h2, if_true, ← hlen]
      exact j2_f _ _ _ _ _ _ _
    · simp only [h2, if_false, ← hlen]
      exact j2_f _ _ _ _ _ _ _
  intro d
  induction d with
  | zero =>
    intro i l ho hi hd hl
    obtain rfl : i = s.size := by omega
    obtain rfl : l = [] := by rw [← hl]; exact List.drop_eq_nil_of_le (by rw [aI]; omega)
    refine Ev.succ ?_
    simp only [bf.l0]
    exact Ev.ifn (by omega) (hj1 _ [] ho hi hl rfl rfl)
  | succ d ih =>
    intro i l ho hi hd hl
    cases l with
    | nil => exact absurd (at_nil hi hl) (by omega)
    | cons c l =>
      obtain ⟨h1, h2, h3⟩ := gp hl
      refine Ev.succ ?_
      simp only [bf.l0]
      rw [h2, bU i (by omega)]
      refine Ev.ifp (by omega) (Ev.ifp (by omega) (Ev.val (isRun_f c) ?_))
      by_cases hr : bQ c = true
      · refine Ev.ifp hr ?_
        have htk : ((lst s).take (i + 1)).drop o = ((lst s).take i).drop o ++ [c] := by
          have e : (lst s).take (i + 1) = (lst s).take i ++ [c] := by
            rw [List.take_succ_eq_append_getElem (by rw [aI]; exact h1)]
            congr 2
            have := congrArg (·[0]?) hl
            simp only [List.getElem?_drop, Nat.add_zero, List.getElem?_cons_zero] at this
            exact (List.getElem?_eq_some_iff.1 this).2
          rw [e, List.drop_append_of_le_length (by rw [List.length_take, aI]; omega)]
        have := ih (i + 1) l (by omega) (by omega) (by omega) h3
        rw [htk] at this
        rw [List.takeWhile_cons_of_pos hr, List.dropWhile_cons_of_pos hr]
        simpa only [List.append_assoc, List.singleton_append] using this
      · refine Ev.ifn hr ?_
        exact hj1 i (c :: l) ho hi hl (List.takeWhile_cons_of_neg hr) (List.dropWhile_cons_of_neg hr)
theorem next_f (s : ByteArray) (hs : s.size ≤ 1000000) (i : Nat) (hi : i ≤ s.size) : Ev (fun k => bf.f k s i) (nextT s.size (dw false ((lst s).drop i))) := by
  unfold bf.f
  refine Ev.bind (skip_f s hs i hi) ?_
  have hsuf : ∃ j, j ≤ s.size ∧ (lst s).drop j = dw false ((lst s).drop i) ∧ (s.size : Int) - (dw false ((lst s).drop i)).length = (j : Nat) := by
    have hsx : ∀ (l : List UInt8) (b : Bool), dw b l <:+ l := by
      intro l
      induction l with
      | nil => intro b; cases b <;> exact List.suffix_refl _
      | cons c l ih =>
        intro b
        cases b
        · unfold dw
          split
          · exact (ih true).trans (List.suffix_cons _ _)
          · split
            · exact (ih false).trans (List.suffix_cons _ _)
            · exact List.suffix_refl _
        · unfold dw
          split
          · exact (ih false).trans (List.suffix_cons _ _)
          · exact (ih true).trans (List.suffix_cons _ _)
    have h1 := (hsx ((lst s).drop i) false).trans (List.drop_suffix i (lst s))
    obtain ⟨t, ht⟩ := h1
    refine ⟨t.length, ?_, ?_, ?_⟩
    · have := congrArg List.length ht; rw [List.length_append, aI] at this; omega
    · conv => lhs; rw [← ht]
      exact List.drop_left
    · have := congrArg List.length ht; rw [List.length_append, aI] at this; omega
  obtain ⟨j, hj, hl, he⟩ := hsuf
  rw [he]
  generalize dw false ((lst s).drop i) = l at hl he
  unfold nextT
  rw [he]
  cases l with
  | nil =>
    have := at_nil hj hl
    subst this
    exact Ev.ifp rfl (Ev.ret (by simp [tokL, str]))
  | cons c l =>
    obtain ⟨h1, h2, h3⟩ := gp hl
    refine Ev.ifn (by omega) (Ev.ifp (by omega) (Ev.ifp (by omega) ?_))
    rw [h2, bU j (by omega)]
    refine Ev.val (isRun_f c) ?_
    by_cases hr : bQ c = true
    · refine Ev.ifp hr ?_
      have h := next_loop s hs j _ (j + 1) l (by omega) (by omega) rfl h3
      have ht : ((lst s).take (j + 1)).drop j = [c] := by
        rw [List.take_succ_eq_append_getElem (by rw [aI]; exact h1), List.drop_append_of_le_length (by rw [List.length_take, aI]; omega), List.drop_eq_nil_of_le (by rw [List.length_take]; omega)]
        have := congrArg (·[0]?) hl
        simp only [List.getElem?_drop, Nat.add_zero, List.getElem?_cons_zero] at this
        rw [(List.getElem?_eq_some_iff.1 this).2]; rfl
      rw [ht] at h
      have ht2 : tokL (c :: l) = clsL (c :: l.takeWhile bQ) (l.dropWhile bQ) := by
        unfold tokL; dsimp only; rw [if_pos hr]
      rw [ht2]
      exact h
    · refine Ev.ifn hr ?_
      have hlen : ((j + 1 : Nat) : Int) = (s.size : Int) - (l.length : Int) := by rw [← h3, List.length_drop, aI]; omega
      by_cases h34 : c.toNat = 34
      · refine Ev.ifp (by omega) (Ev.bind (text_f s hs j l h1 h3) ?_)
        have ht2 : tokL (c :: l) = gQ l := by
          unfold tokL; dsimp only; rw [if_neg hr, if_pos h34]
        rw [ht2]
        have hj2 := j2_f (j : Int) (if (gQ l).kind = 3 then (s.size : Int) - (gQ l).rest.length else 0) (gQ l).code (gQ l).kind (str (gQ l).text) 0 0
        have hn : (gQ l).n = 0 ∧ ((gQ l).code = 0 → (gQ l).kind = 3) := by
          unfold gQ
          split
          · exact ⟨rfl, by decide⟩
          · split
            · exact ⟨rfl, fun _ => rfl⟩
            · exact ⟨rfl, by decide⟩
        rw [hn.1]
        by_cases hc : (gQ l).code = 0
        · rw [if_pos hc] at hj2 ⊢
          rw [if_pos (hn.2 hc)] at hj2 ⊢
          exact hj2
        · rw [if_neg hc] at hj2 ⊢
          exact hj2
      · refine Ev.ifn (by omega) (Ev.val jR (Ev.ifp (by omega) (Ev.ifp (jS c) ?_)))
        rw [jT]
        by_cases h5 : kindOf c.toNat = 5
        · have ht2 : tokL (c :: l) = ⟨4, [c], 0, l, 0⟩ := by
            unfold tokL; dsimp only; rw [if_neg hr, if_neg h34, if_pos h5]
          rw [ht2]
          refine Ev.ifp (by omega) (Ev.ifp (by omega) (Ev.ifp (by omega) ?_))
          have hx : s.extract ((j : Int)).toNat (((j + 1 : Nat) : Int)).toNat = str [c] := by
            apply ic; rw [eO, gM]
            show ((lst s).take (j + 1)).drop j = [c]
            rw [List.take_succ_eq_append_getElem (by rw [aI]; exact h1), List.drop_append_of_le_length (by rw [List.length_take, aI]; omega), List.drop_eq_nil_of_le (by rw [List.length_take]; omega)]
            have := congrArg (·[0]?) hl
            simp only [List.getElem?_drop, Nat.add_zero, List.getElem?_cons_zero] at this
            rw [(List.getElem?_eq_some_iff.1 this).2]; rfl
          rw [hx, hlen]
          simpa using j2_f (j : Int) ((s.size : Int) - (l.length : Int)) 0 4 (str [c]) 0 0
        · have ht2 : tokL (c :: l) = ⟨0, [], 0, [], 2⟩ := by
            unfold tokL; dsimp only; rw [if_neg hr, if_neg h34, if_neg h5]
          rw [ht2]
          refine Ev.ifn (by omega) ?_
          simpa using j2_f (j : Int) ((j + 1 : Nat) : Int) 2 0 (⟨#[]⟩ : ByteArray) 0 0
theorem iV : ∀ (l : List UInt8) (b : Bool), dw b l <:+ l := by
  intro l
  induction l with
  | nil => intro b; cases b <;> exact List.suffix_refl _
  | cons c l ih =>
    intro b
    cases b
    · unfold dw
      split
      · exact (ih true).trans (List.suffix_cons _ _)
      · split
        · exact (ih false).trans (List.suffix_cons _ _)
        · exact List.suffix_refl _
    · unfold dw
      split
      · exact (ih false).trans (List.suffix_cons _ _)
      · exact (ih true).trans (List.suffix_cons _ _)
theorem ky (l : List UInt8) (hc : (tokL l).code = 0) : (tokL l).rest <:+ l ∧ (l ≠ [] → (tokL l).rest.length < l.length ∧ (tokL l).kind ≠ 5) := by
  cases l with
  | nil => exact ⟨List.suffix_refl _, fun h => absurd rfl h⟩
  | cons c l =>
    unfold tokL at hc ⊢
    dsimp only at hc ⊢
    by_cases hr : bQ c = true
    · rw [if_pos hr] at hc ⊢
      have hsx := List.dropWhile_suffix bQ (l := l)
      have hl := hsx.length_le
      unfold clsL at hc ⊢
      split
      · exact ⟨hsx.trans (List.suffix_cons _ _), fun _ => ⟨by simp; omega, by simp⟩⟩
      · exact ⟨hsx.trans (List.suffix_cons _ _), fun _ => ⟨by simp; omega, by simp⟩⟩
    · rw [if_neg hr] at hc ⊢
      by_cases h34 : c.toNat = 34
      · rw [if_pos h34] at hc ⊢
        unfold gQ at hc ⊢
        have hsx := List.dropWhile_suffix fG (l := l)
        cases hd : l.dropWhile fG with
        | nil => rw [hd] at hc; simp at hc
        | cons e r =>
          rw [hd] at hc hsx
          dsimp only at hc ⊢
          have hl := hsx.length_le
          by_cases he : e.toNat = 34
          · rw [if_pos he] at hc ⊢
            exact ⟨(List.suffix_cons _ _).trans (hsx.trans (List.suffix_cons _ _)), fun _ => ⟨by simp at hl ⊢; omega, by simp⟩⟩
          · rw [if_neg he] at hc
            exact absurd hc (by decide)
      · rw [if_neg h34] at hc ⊢
        by_cases h5 : kindOf c.toNat = 5
        · rw [if_pos h5]
          exact ⟨List.suffix_cons _ _, fun _ => ⟨by simp, by simp⟩⟩
        · rw [if_neg h5] at hc
          exact absurd hc (by decide)
structure Tok where
  kind : Int
  text : List UInt8
  n : Int
  rem : Nat
def lexL : Nat → List UInt8 → Except (Int × Nat) (List Tok)
  | 0, _ => .ok []
  | f + 1, l =>
    let l1 := dw false l
    if (tokL l1).code ≠ 0 then .error ((tokL l1).code, l1.length)
    else if l1 = [] then .ok [⟨5, [], 0, 0⟩]
    else match lexL f (tokL l1).rest with
      | .error e => .error e
      | .ok ts => .ok (⟨(tokL l1).kind, (tokL l1).text, (tokL l1).n, l1.length⟩ :: ts)
def Tok.at_ (n : Nat) (t : Tok) : S46 := ⟨t.kind, str t.text, t.n, (n : Int) - t.rem⟩
def lm (n : Nat) (acc : List S46) : Except (Int × Nat) (List Tok) → List S46 × Int × Int
  | .error e => ([], e.1, (n : Int) - e.2)
  | .ok ts => (acc ++ ts.map (Tok.at_ n), 0, 0)
theorem suffix_at {s : ByteArray} {l : List UInt8} (h : l <:+ lst s) : ∃ j, j ≤ s.size ∧ (lst s).drop j = l ∧ (s.size : Int) - l.length = (j : Nat) := by
  obtain ⟨t, ht⟩ := h
  refine ⟨t.length, ?_, ?_, ?_⟩
  · have := congrArg List.length ht; rw [List.length_append, aI] at this; omega
  · conv => lhs; rw [← ht]
    exact List.drop_left
  · have := congrArg List.length ht; rw [List.length_append, aI] at this; omega
theorem lex_any (s : ByteArray) (hs : s.size ≤ 1000000) (nx : Nat → Int → Option (Int × ByteArray × Int × Int × Int × Int × Int))
    (hnx : ∀ i : Nat, i ≤ s.size → Ev (fun k => nx k i) (nextT s.size (dw false ((lst s).drop i))))
    (lp : Nat → List S46 → Int → Option (List S46 × Int × Int))
    (hlp : ∀ k a i, lp (k + 1) a i = (nx k i).bind fun b => (if b.2.2.2.2.2.1 = 0 then (if a.length < 3518437208883 then ((some (a ++ [(⟨b.1, b.2.1, b.2.2.1, b.2.2.2.1⟩ : S46)] : List (S46))).bind fun y => (if b.1 = 5 then (some (y, 0, 0)) else (lp k y b.2.2.2.2.1))) else (none)) else (some (([] : List (S46)), b.2.2.2.2.2.1, b.2.2.2.2.2.2)))) :
    ∀ (f : Nat) (i : Nat) (l : List UInt8) (acc : List S46), i ≤ s.size → (lst s).drop i = l → l.length < f → acc.length ≤ i → Ev (fun k => lp k acc i) (lm s.size acc (lexL f l)) := by
  intro f
  induction f with
  | zero => intro i l acc hi hl hf; omega
  | succ f ih =>
    intro i l acc hi hl hf ha
    refine Ev.succ ?_
    simp only [hlp]
    have hn := hnx i hi
    rw [hl] at hn
    refine Ev.bind hn ?_
    have hsk := iV l false
    unfold lexL
    dsimp only
    generalize hl1 : dw false l = l1 at hsk ⊢
    unfold nextT
    by_cases hc : (tokL l1).code = 0
    · rw [if_pos hc, if_neg (by simp [hc])]
      refine Ev.ifp rfl (Ev.ifp (by omega) ?_)
      simp only [Option.bind_some]
      by_cases h0 : l1 = []
      · rw [if_pos h0]
        subst h0
        exact Ev.ifp rfl (Ev.ret (by simp [lm, Tok.at_, tokL]))
      · rw [if_neg h0]
        obtain ⟨h1, h2⟩ := ky l1 hc
        obtain ⟨h3, h4⟩ := h2 h0
        refine Ev.ifn h4 ?_
        have hls : l <:+ lst s := by rw [← hl]; exact List.drop_suffix _ _
        obtain ⟨j, hj1, hj2, hj3⟩ := suffix_at (h1.trans (hsk.trans hls))
        have hle := hsk.length_le
        have hll : l.length = s.size - i := by rw [← hl, List.length_drop, aI]
        rw [hj3]
        have := ih j _ (acc ++ [(⟨(tokL l1).kind, str (tokL l1).text, (tokL l1).n, (s.size : Int) - l1.length⟩ : S46)]) hj1 hj2 (by omega) (by simp; omega)
        cases hx : lexL f (tokL l1).rest with
        | error e => rw [hx] at this; exact this
        | ok ts =>
          rw [hx] at this
          simpa [lm, Tok.at_] using this
    · rw [if_neg hc, if_pos hc]
      exact Ev.ifn hc (Ev.ret rfl)
theorem Lex_f (s : ByteArray) (hs : s.size ≤ 65536) : Ev (fun k => cu.f k s) (lm s.size [] (lexL (s.size + 1) (lst s))) := by
  unfold cu.f
  refine Ev.ifn (by omega) ?_
  have h := lex_any s (by omega) (fun k i => bf.f k s i) (fun i hi => next_f s (by omega) i hi) (fun k a i => cu.l0 k s a i) (fun k a i => by simp only [cu.l0]) (s.size + 1) 0 (lst s) [] (by omega) rfl (by rw [aI]; omega) (by simp)
  exact h
end Go.Proofs.YtkifdadhojbohaaGreatDoor.Pu
