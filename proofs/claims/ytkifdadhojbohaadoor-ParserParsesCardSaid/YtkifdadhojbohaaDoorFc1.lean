/- Joined out of the texts of this proof that bear the names PrF81 PrF70 PuA PrF82 PrF91 PrF106 PrF83 PrF64 PrF84 PrF55 PuB PuC PrF25 PuD: what each shows stands over it there. -/
import Derived.Test.YtkifdadhojbohaaDoorFk1
import Derived.Test.YtkifdadhojbohaaDoorFb1
set_option linter.unusedVariables false
set_option linter.unusedSimpArgs false
set_option maxHeartbeats 8000000
set_option maxRecDepth 100000
namespace Go.Proofs.YtkifdadhojbohaaDoor.Pr
open Go.Proofs.YtkifdadhojbohaaDoor
open Go.RowKit Go.Proofs.YtkifdadhojbohaaDoorW.PrintWords Go.Proofs.YtkifdadhojbohaaDoorW.PrintLast Go.Proofs.YtkifdadhojbohaaDoorW.PrintMore
attribute [local go_sem] max2_int min2_int max_two min_two max_three min_three max_four min_four   -- for this text's walks alone
set_option linter.unusedVariables false
set_option linter.unusedSimpArgs false
mutual
def lexer_skip.l0 : Nat → ByteArray → Int → Option (Int)
 | 0, _, _ => none
 | k + 1, x0, x1 => if x1 < (x0.size : Int) then (if 0 ≤ x1 then (if (bt x0 x1) = 35 then (lexer_skip.l1 k x0 x1) else ((lexer_kinds.f).bind fun t101 => (if 0 ≤ (bt x0 x1) then (if (bt x0 x1) < 256 then (if (lexer_kinds.at_ (bt x0 x1)) = 1 then (lexer_skip.l0 k x0 (wrap64 (x1 + 1))) else (some x1)) else (none)) else (none)))) else (none)) else (some x1)
def lexer_skip.l1 : Nat → ByteArray → Int → Option (Int)
 | 0, _, _ => none
 | k + 1, x0, x1 => if x1 < (x0.size : Int) then (if 0 ≤ x1 then (if (bt x0 x1) = 10 then (lexer_skip.l0 k x0 x1) else (lexer_skip.l1 k x0 (wrap64 (x1 + 1)))) else (none)) else (lexer_skip.l0 k x0 x1)
end
def lexer_skip.f (k : Nat) (a0 : ByteArray) (a1 : Int) : Option (Int) := lexer_skip.l0 k a0 a1
theorem lexer_skip.mono_l : ∀ k, (∀ y0 y1, LeO (lexer_skip.l0 k y0 y1) (lexer_skip.l0 (k + 1) y0 y1)) ∧ (∀ y0 y1, LeO (lexer_skip.l1 k y0 y1) (lexer_skip.l1 (k + 1) y0 y1))
 | 0 => ⟨fun _ _ r h => by simp [lexer_skip.l0] at h, fun _ _ r h => by simp [lexer_skip.l1] at h⟩
 | k + 1 => by
  obtain ⟨ih0, ih1⟩ := lexer_skip.mono_l k
  refine ⟨?_, ?_⟩
  ·
   intro y0 y1
   unfold lexer_skip.l0
   repeat' first
   | (with_reducible exact LeO.refl _)
   | exact ih0 _ _
   | exact ih1 _ _
   | exact LeO.none _
   | refine LeO.ite ?_ ?_
   | refine LeO.bind ?_ (fun _ => ?_)
  ·
   intro y0 y1
   unfold lexer_skip.l1
   repeat' first
   | (with_reducible exact LeO.refl _)
   | exact ih0 _ _
   | exact ih1 _ _
   | exact LeO.none _
   | refine LeO.ite ?_ ?_
   | refine LeO.bind ?_ (fun _ => ?_)
theorem lexer_skip.mono : ∀ a0 a1 k, LeO (lexer_skip.f k a0 a1) (lexer_skip.f (k + 1) a0 a1) := by
 intro a0 a1 k
 obtain ⟨ih0, ih1⟩ := lexer_skip.mono_l k
 unfold lexer_skip.f
 repeat' first
   | (with_reducible exact LeO.refl _)
   | exact ih0 _ _
   | exact ih1 _ _
   | exact LeO.none _
   | refine LeO.ite ?_ ?_
   | refine LeO.bind ?_ (fun _ => ?_)
theorem lexer_skip.calls (k : Nat) (a0 : ByteArray) (a1 : Int) (r : Int) (w : World) (h : lexer_skip.f k a0 a1 = some r) :
  Calls Tryd.prog 81 #[.string a0, .int .i64 a1] w fun e w' => e = .returned (.int .i64 r) ∧ Below w.heap.size w w' := by
 have HB := Aside0.mk (Below.refl w.heap.size w); have H : (lexer_skip.l0 k a0 a1) = some r := h; clear h; have H' := Aside0.mk H; clear H
 go_enter Tryd.func81, Tryd.ntmps81
 go_wp2
 go_loopg [1] k (fun kq v1 w' => ∃ (x1_1 : Int), v1 = .int .i64 x1_1 ∧ Aside0 (lexer_skip.l0 kq a0 x1_1 = some r) ∧ Aside0 (kq ≤ k) ∧ Aside0 (Below w.heap.size w w'))
 case atStart => exact ⟨(a1), sr_, H', ⟨Nat.le_refl _⟩, ⟨bl_ HB.out⟩⟩
 case round =>
  clear H'; obtain ⟨x1_1, rfl, HA, HK1, HB⟩ := hrel; obtain _ | k1 := gk
  · exact absurd HA.out (by simp [lexer_skip.l0])
  have H := HA.out; clear HA; simp only [lexer_skip.l0] at H; replace H := (sd_ H).symm; obtain ⟨c3b0, H⟩ | ⟨c3b0, H⟩ := H
  ·
   obtain rfl := Option.some.inj H
   go_wp2
   go_ret
   exact ⟨er_, bl_ HB.out⟩
  replace H := gd_ H; obtain ⟨c4b0, H⟩ := H; replace H := sp_ H; obtain ⟨c6, H⟩ | ⟨c6, H⟩ := H
  ·
   have c6b0 := beq_iff_eq.mpr c6; have c6b1 := bne_eq_false_iff_eq.mpr c6; clear c6; have H' := Aside0.mk H; clear H; have p5 : (0 ≤ (x1_1 : Int)) = True := dT_; have q5 : (x1_1 < (a0.size : Int)) = True := dT_; have hx5 := bt_at a0 x1_1
   go_wp2
   go_loopg [1] k1 (fun kq v1 w' => ∃ (x1_2 : Int), v1 = .int .i64 x1_2 ∧ Aside0 (lexer_skip.l1 kq a0 x1_2 = some r) ∧ Aside0 (kq ≤ k1) ∧ Aside0 (Below w.heap.size w w'))
   case atStart => exact ⟨(x1_1), sr_, H', ⟨Nat.le_refl _⟩, ⟨bl_ HB.out⟩⟩
   case round =>
    clear H'; (try clear c3); (try clear c3b0); (try clear c4); (try clear c4b0); (try clear p5); (try clear q5); (try clear hx5); (try clear c6); (try clear c6b0); (try clear c6b1); (try clear p5); (try clear q5); obtain ⟨x1_2, rfl, HA, HK2, HB⟩ := hrel; obtain _ | k2 := gk
    · exact absurd HA.out (by simp [lexer_skip.l1])
    have H := HA.out; clear HA; simp only [lexer_skip.l1] at H; replace H := (sd_ H).symm; obtain ⟨c7b0, H⟩ | ⟨c7b0, H⟩ := H
    ·
     have H' := Aside0.mk H; clear H
     go_wp2
     go_roundg k2
     case measure => have := HK1.out; have := HK2.out; omega
     case rel => exact ⟨(x1_2), sr_, H', ⟨by have := HK1.out; have := HK2.out; omega⟩, ⟨bl_ HB.out⟩⟩
    replace H := gd_ H; obtain ⟨c8b0, H⟩ := H; replace H := (sp_ H).symm; obtain ⟨c10, H⟩ | ⟨c10, H⟩ := H
    ·
     have c10b0 := beq_eq_false_iff_ne.mpr c10; have c10b1 := bne_iff_ne.mpr c10; have H' := Aside0.mk H; clear H; have p9 : (0 ≤ (x1_2 : Int)) = True := dT_; have q9 : (x1_2 < (a0.size : Int)) = True := dT_; have hx9 := bt_at a0 x1_2
     go_wp2
     go_roundg k2
     case measure => have := HK1.out; have := HK2.out; omega
     case rel => exact ⟨(wrap64 (x1_2 + 1)), sr_, H', ⟨by have := HK1.out; have := HK2.out; omega⟩, ⟨bl_ HB.out⟩⟩
    have c10b0 := beq_iff_eq.mpr c10; have c10b1 := bne_eq_false_iff_eq.mpr c10; clear c10; have H' := Aside0.mk H; clear H; have p9 : (0 ≤ (x1_2 : Int)) = True := dT_; have q9 : (x1_2 < (a0.size : Int)) = True := dT_; have hx9 := bt_at a0 x1_2
    go_wp2
    go_roundg k2
    case measure => have := HK1.out; have := HK2.out; omega
    case rel => exact ⟨(x1_2), sr_, H', ⟨by have := HK1.out; have := HK2.out; omega⟩, ⟨bl_ HB.out⟩⟩
  have c6b0 := beq_eq_false_iff_ne.mpr c6; have c6b1 := bne_iff_ne.mpr c6; replace H := bn_ H; obtain ⟨t101, A11, H⟩ := H; (try dsimp only at H); replace H := gd_ H; obtain ⟨c13b0, H⟩ := H; replace H := gd_ H; obtain ⟨c14b0, H⟩ := H; replace H := (sp_ H).symm; obtain ⟨c16, H⟩ | ⟨c16, H⟩ := H
  ·
   have c16b0 := beq_eq_false_iff_ne.mpr c16; have c16b1 := bne_iff_ne.mpr c16; obtain rfl := Option.some.inj H; have p5 : (0 ≤ (x1_1 : Int)) = True := dT_; have q5 : (x1_1 < (a0.size : Int)) = True := dT_; have hx5 := bt_at a0 x1_1
   try go_wp2
   refine cut1_ (below_drew1 HB.out) ?_; clear HB; intro HB; have p12 : (0 ≤ (x1_1 : Int)) = True := dT_; have q12 : (x1_1 < (a0.size : Int)) = True := dT_; have hx12 := bt_at a0 x1_1; refine start_ (n := 6) (S := fun w' => True) (ds := []) (bm_ 6 0) (by kernel_rfl) rfl (by kernel_rfl) trivial (fun hHeld => ?_); generalize wr.drew = w19 at HB hHeld ⊢; refine pr_ (i := 1) (N := some 26) (bm_ 6 2) (by kernel_rfl) ?_; refine pr_ (i := 2) (N := some 27) (bm_ 6 6) (by kernel_rfl) ?_; refine take_ (i := 3) (N := some 28) (v := ?_) (a' := ?_) (bm_ 6 14) rfl rfl (by kernel_rfl) (fun _ _ _ h => h) (Or.inl ⟨by rfl, ?_⟩) hHeld ?_ ?_; rotate_left
   ·
    intro w' _; go_simp
    with_reducible rfl
   rotate_left
   ·
    simp only [Act.put, List.setIfInBounds_toArray, List.set_cons_zero, List.set_cons_succ, i64_w, i32_w]
    rfl
   refine one_ (i := 0) (N := some 25) (bm_ 6 15) rfl rfl (by kernel_rfl) (by decide) (fun K hK => ?_); refine goes_ Tryd.func65 (by kernel_rfl) rfl #[] (by rfl) rfl rfl ga_ ?_
   with_reducible refine (lexer_kinds.calls  t101 _ A11.out).mono ?_
   rintro e w20 ⟨rfl, hb⟩; refine ⟨_, rfl, ?_⟩; refine cut1_ (below_step (bl_ HB.out) hb) ?_; clear HB; intro HB; (try clear hb); have p15 : 0 ≤ ((bt a0 x1_1) : Int) := dt_; have q15 : ((bt a0 x1_1) : Int) < 256 := dt_; have hx15 := lexer_kinds.at_run A11.out (bt a0 x1_1) p15 q15; replace p15 := eq_true p15; replace q15 := eq_true q15; refine hK.out _ _ trivial (fun hHeld => ?_); clear hK K; refine nm_ ?_; refine take_ (i := 4) (N := some 29) (v := ?_) (a' := ?_) (bm_ 6 31) rfl rfl (by kernel_rfl) (fun _ _ _ h => h) (Or.inl ⟨by rfl, ?_⟩) hHeld ?_ ?_; rotate_left
   ·
    intro w' _; go_simp
    with_reducible rfl
   rotate_left
   ·
    simp only [Act.put, List.setIfInBounds_toArray, List.set_cons_zero, List.set_cons_succ, i64_w, i32_w]
    rfl
   refine pr_ (i := 5) (N := some 30) (bm_ 6 63) (by kernel_rfl) ?_; refine done_ (by kernel_rfl) ?_
   try go_wp2
   go_ret
   exact ⟨er_, bl_ HB.out⟩
  have c16b0 := beq_iff_eq.mpr c16; have c16b1 := bne_eq_false_iff_eq.mpr c16; clear c16; have H' := Aside0.mk H; clear H; have p5 : (0 ≤ (x1_1 : Int)) = True := dT_; have q5 : (x1_1 < (a0.size : Int)) = True := dT_; have hx5 := bt_at a0 x1_1
  try go_wp2
  refine cut1_ (below_drew1 HB.out) ?_; clear HB; intro HB; have p12 : (0 ≤ (x1_1 : Int)) = True := dT_; have q12 : (x1_1 < (a0.size : Int)) = True := dT_; have hx12 := bt_at a0 x1_1; refine start_ (n := 6) (S := fun w' => True) (ds := []) (bm_ 6 0) (by kernel_rfl) rfl (by kernel_rfl) trivial (fun hHeld => ?_); generalize wr.drew = w17 at HB hHeld ⊢; refine pr_ (i := 1) (N := some 26) (bm_ 6 2) (by kernel_rfl) ?_; refine pr_ (i := 2) (N := some 27) (bm_ 6 6) (by kernel_rfl) ?_; refine take_ (i := 3) (N := some 28) (v := ?_) (a' := ?_) (bm_ 6 14) rfl rfl (by kernel_rfl) (fun _ _ _ h => h) (Or.inl ⟨by rfl, ?_⟩) hHeld ?_ ?_; rotate_left
  ·
   intro w' _; go_simp
   with_reducible rfl
  rotate_left
  ·
   simp only [Act.put, List.setIfInBounds_toArray, List.set_cons_zero, List.set_cons_succ, i64_w, i32_w]
   rfl
  refine one_ (i := 0) (N := some 25) (bm_ 6 15) rfl rfl (by kernel_rfl) (by decide) (fun K hK => ?_); refine goes_ Tryd.func65 (by kernel_rfl) rfl #[] (by rfl) rfl rfl ga_ ?_
  with_reducible refine (lexer_kinds.calls  t101 _ A11.out).mono ?_
  rintro e w18 ⟨rfl, hb⟩; refine ⟨_, rfl, ?_⟩; refine cut1_ (below_step (bl_ HB.out) hb) ?_; clear HB; intro HB; (try clear hb); have p15 : 0 ≤ ((bt a0 x1_1) : Int) := dt_; have q15 : ((bt a0 x1_1) : Int) < 256 := dt_; have hx15 := lexer_kinds.at_run A11.out (bt a0 x1_1) p15 q15; replace p15 := eq_true p15; replace q15 := eq_true q15; refine hK.out _ _ trivial (fun hHeld => ?_); clear hK K; refine nm_ ?_; refine take_ (i := 4) (N := some 29) (v := ?_) (a' := ?_) (bm_ 6 31) rfl rfl (by kernel_rfl) (fun _ _ _ h => h) (Or.inl ⟨by rfl, ?_⟩) hHeld ?_ ?_; rotate_left
  ·
   intro w' _; go_simp
   with_reducible rfl
  rotate_left
  ·
   simp only [Act.put, List.setIfInBounds_toArray, List.set_cons_zero, List.set_cons_succ, i64_w, i32_w]
   rfl
  refine pr_ (i := 5) (N := some 30) (bm_ 6 63) (by kernel_rfl) ?_; refine done_ (by kernel_rfl) ?_
  try go_wp2
  go_roundg k1
  case measure => have := HK1.out; omega
  case rel => exact ⟨(wrap64 (x1_1 + 1)), sr_, H', ⟨om_ HK1.out⟩, ⟨bl_ HB.out⟩⟩
mutual
def salchowref09_skip.l0 : Nat → ByteArray → Int → Option (Int)
 | 0, _, _ => none
 | k + 1, x0, x1 => if x1 < (x0.size : Int) then (if 0 ≤ x1 then (if (bt x0 x1) = 32 then (salchowref09_skip.j1 k x0 x1 true) else (if (bt x0 x1) = 9 then (salchowref09_skip.j1 k x0 x1 true) else (if (bt x0 x1) = 10 then (salchowref09_skip.j1 k x0 x1 true) else (salchowref09_skip.j1 k x0 x1 ((bt x0 x1) == 13))))) else (none)) else (some x1)
def salchowref09_skip.j1 : Nat → ByteArray → Int → Bool → Option (Int)
 | 0, _, _, _ => none
 | k + 1, x0, x1, x10 => if x10 = true then (salchowref09_skip.l0 k x0 (wrap64 (x1 + 1))) else (if 0 ≤ x1 then (if x1 < (x0.size : Int) then (if (bt x0 x1) = 35 then (salchowref09_skip.l1 k x0 x1) else (some x1)) else (none)) else (none))
def salchowref09_skip.l1 : Nat → ByteArray → Int → Option (Int)
 | 0, _, _ => none
 | k + 1, x0, x1 => if x1 < (x0.size : Int) then (if 0 ≤ x1 then (if (bt x0 x1) = 10 then (salchowref09_skip.l0 k x0 x1) else (salchowref09_skip.l1 k x0 (wrap64 (x1 + 1)))) else (none)) else (salchowref09_skip.l0 k x0 x1)
end
def salchowref09_skip.f (k : Nat) (a0 : ByteArray) (a1 : Int) : Option (Int) := salchowref09_skip.l0 k a0 a1
theorem salchowref09_skip.mono_l : ∀ k, (∀ y0 y1, LeO (salchowref09_skip.l0 k y0 y1) (salchowref09_skip.l0 (k + 1) y0 y1)) ∧ (∀ y0 y1 y2, LeO (salchowref09_skip.j1 k y0 y1 y2) (salchowref09_skip.j1 (k + 1) y0 y1 y2)) ∧ (∀ y0 y1, LeO (salchowref09_skip.l1 k y0 y1) (salchowref09_skip.l1 (k + 1) y0 y1))
 | 0 => ⟨fun _ _ r h => by simp [salchowref09_skip.l0] at h, fun _ _ _ r h => by simp [salchowref09_skip.j1] at h, fun _ _ r h => by simp [salchowref09_skip.l1] at h⟩
 | k + 1 => by
  obtain ⟨ih0, ih1, ih2⟩ := salchowref09_skip.mono_l k
  refine ⟨?_, ?_, ?_⟩
  ·
   intro y0 y1
   unfold salchowref09_skip.l0
   repeat' first
   | (with_reducible exact LeO.refl _)
   | exact ih0 _ _
   | exact ih1 _ _ _
   | exact ih2 _ _
   | exact LeO.none _
   | refine LeO.ite ?_ ?_
   | refine LeO.bind ?_ (fun _ => ?_)
  ·
   intro y0 y1 y2
   unfold salchowref09_skip.j1
   repeat' first
   | (with_reducible exact LeO.refl _)
   | exact ih0 _ _
   | exact ih1 _ _ _
   | exact ih2 _ _
   | exact LeO.none _
   | refine LeO.ite ?_ ?_
   | refine LeO.bind ?_ (fun _ => ?_)
  ·
   intro y0 y1
   unfold salchowref09_skip.l1
   repeat' first
   | (with_reducible exact LeO.refl _)
   | exact ih0 _ _
   | exact ih1 _ _ _
   | exact ih2 _ _
   | exact LeO.none _
   | refine LeO.ite ?_ ?_
   | refine LeO.bind ?_ (fun _ => ?_)
theorem salchowref09_skip.mono : ∀ a0 a1 k, LeO (salchowref09_skip.f k a0 a1) (salchowref09_skip.f (k + 1) a0 a1) := by
 intro a0 a1 k
 obtain ⟨ih0, ih1, ih2⟩ := salchowref09_skip.mono_l k
 unfold salchowref09_skip.f
 repeat' first
   | (with_reducible exact LeO.refl _)
   | exact ih0 _ _
   | exact ih1 _ _ _
   | exact ih2 _ _
   | exact LeO.none _
   | refine LeO.ite ?_ ?_
   | refine LeO.bind ?_ (fun _ => ?_)
theorem salchowref09_skip.calls (k : Nat) (a0 : ByteArray) (a1 : Int) (r : Int) (w : World) (h : salchowref09_skip.f k a0 a1 = some r) :
  Calls Tryd.prog 70 #[.string a0, .int .i64 a1] w fun e w' => e = .returned (.int .i64 r) ∧ Drawn0 w w' := by
 have H : (salchowref09_skip.l0 k a0 a1) = some r := h; clear h; have H' := Aside0.mk H; clear H
 go_enter Tryd.func70, Tryd.ntmps70
 go_wp2
 go_loopg [1] k (fun kq v1 w' => ∃ (x1_1 : Int), v1 = .int .i64 x1_1 ∧ Aside0 (salchowref09_skip.l0 kq a0 x1_1 = some r) ∧ Aside0 (kq ≤ k) ∧ Drawn0 w w')
 case atStart => exact ⟨(a1), sr_, H', ⟨Nat.le_refl _⟩, by repeat (first | exact Drawn0.refl _ | apply Drawn0.step)⟩
 case round =>
  clear H'; obtain ⟨x1_1, rfl, HA, HK1, ⟨m1, rfl⟩⟩ := hrel; obtain _ | k1 := gk
  · exact absurd HA.out (by simp [salchowref09_skip.l0])
  have H := HA.out; clear HA; simp only [salchowref09_skip.l0] at H; replace H := (sd_ H).symm; obtain ⟨c3b0, H⟩ | ⟨c3b0, H⟩ := H
  ·
   obtain rfl := Option.some.inj H
   go_wp2
   go_ret
   exact ⟨by first | rfl | (simp; done) | (simp [*]; done) | (simp <;> rfl), by repeat (first | exact Drawn0.refl _ | apply Drawn0.step)⟩
  have HC4 := Aside0.mk H; clear H
  go_upto_region 3 with (fail)
  go_cut [10] (fun v10 wc => ∃ (kq : Nat) (x10_3 : Bool), v10 = .bool x10_3 ∧ Aside0 (salchowref09_skip.j1 kq a0 x1_1 x10_3 = some r) ∧ Aside0 (kq ≤ k1) ∧ Drawn0 w wc)
  case first =>
   have H := HC4.out; clear HC4; replace H := gd_ H; obtain ⟨c5b0, H⟩ := H
   (first | rw [c5b0] | (simp only [i64_w, i32_w]; rw [c5b0]) | skip)
   replace H := sp_ H; obtain ⟨c7, H⟩ | ⟨c7, H⟩ := H
   ·
    have c7b0 := beq_iff_eq.mpr c7; have c7b1 := bne_eq_false_iff_eq.mpr c7; clear c7; have H' := Aside0.mk H; clear H; have p6 : (0 ≤ (x1_1 : Int)) = True := dT_; have q6 : (x1_1 < (a0.size : Int)) = True := dT_; have hx6 := bt_at a0 x1_1
    go_wp2
    go_meet
    case rel => exact ⟨_, (true), sr_, H', ⟨ol_ HK1.out⟩, by repeat (first | exact Drawn0.refl _ | apply Drawn0.step)⟩
   have c7b0 := beq_eq_false_iff_ne.mpr c7; have c7b1 := bne_iff_ne.mpr c7; replace H := sp_ H; obtain ⟨c9, H⟩ | ⟨c9, H⟩ := H
   ·
    have c9b0 := beq_iff_eq.mpr c9; have c9b1 := bne_eq_false_iff_eq.mpr c9; clear c9; have H' := Aside0.mk H; clear H; have p6 : (0 ≤ (x1_1 : Int)) = True := dT_; have q6 : (x1_1 < (a0.size : Int)) = True := dT_; have hx6 := bt_at a0 x1_1; have p8 : (0 ≤ (x1_1 : Int)) = True := dT_; have q8 : (x1_1 < (a0.size : Int)) = True := dT_; have hx8 := bt_at a0 x1_1
    go_wp2
    go_meet
    case rel => exact ⟨_, (true), sr_, H', ⟨ol_ HK1.out⟩, by repeat (first | exact Drawn0.refl _ | apply Drawn0.step)⟩
   have c9b0 := beq_eq_false_iff_ne.mpr c9; have c9b1 := bne_iff_ne.mpr c9; replace H := sp_ H; obtain ⟨c11, H⟩ | ⟨c11, H⟩ := H
   ·
    have c11b0 := beq_iff_eq.mpr c11; have c11b1 := bne_eq_false_iff_eq.mpr c11; clear c11; have H' := Aside0.mk H; clear H; have p6 : (0 ≤ (x1_1 : Int)) = True := dT_; have q6 : (x1_1 < (a0.size : Int)) = True := dT_; have hx6 := bt_at a0 x1_1; have p8 : (0 ≤ (x1_1 : Int)) = True := dT_; have q8 : (x1_1 < (a0.size : Int)) = True := dT_; have hx8 := bt_at a0 x1_1; have p10 : (0 ≤ (x1_1 : Int)) = True := dT_; have q10 : (x1_1 < (a0.size : Int)) = True := dT_; have hx10 := bt_at a0 x1_1
    go_wp2
    go_meet
    case rel => exact ⟨_, (true), sr_, H', ⟨ol_ HK1.out⟩, by repeat (first | exact Drawn0.refl _ | apply Drawn0.step)⟩
   have c11b0 := beq_eq_false_iff_ne.mpr c11; have c11b1 := bne_iff_ne.mpr c11; have H' := Aside0.mk H; clear H; have p6 : (0 ≤ (x1_1 : Int)) = True := dT_; have q6 : (x1_1 < (a0.size : Int)) = True := dT_; have hx6 := bt_at a0 x1_1; have p8 : (0 ≤ (x1_1 : Int)) = True := dT_; have q8 : (x1_1 < (a0.size : Int)) = True := dT_; have hx8 := bt_at a0 x1_1; have p10 : (0 ≤ (x1_1 : Int)) = True := dT_; have q10 : (x1_1 < (a0.size : Int)) = True := dT_; have hx10 := bt_at a0 x1_1; have p12 : (0 ≤ (x1_1 : Int)) = True := dT_; have q12 : (x1_1 < (a0.size : Int)) = True := dT_; have hx12 := bt_at a0 x1_1
   go_wp2
   go_meet
   case rel => exact ⟨_, (((bt a0 x1_1) == 13)), sr_, H', ⟨ol_ HK1.out⟩, by repeat (first | exact Drawn0.refl _ | apply Drawn0.step)⟩
  case rest =>
   clear HC4; (try clear c3); (try clear c3b0); obtain ⟨kq, x10_3, rfl, HA, HJ3, ⟨mc3, rfl⟩⟩ := hcut
   cases kq with
   | zero => exact absurd HA.out (by simp [salchowref09_skip.j1])
   | succ kj3 =>
    have H := HA.out; clear HA; simp only [salchowref09_skip.j1] at H; replace H := sb_ H; obtain ⟨rfl, H⟩ | ⟨rfl, H⟩ := H
    ·
     have H' := Aside0.mk H; clear H
     go_wp2
     go_roundg kj3
     case measure => have := HK1.out; have := HJ3.out; omega
     case rel => exact ⟨(wrap64 (x1_1 + 1)), sr_, H', ⟨by have := HK1.out; have := HJ3.out; omega⟩, by repeat (first | exact Drawn0.refl _ | apply Drawn0.step)⟩
    replace H := gd_ H; obtain ⟨c14b0, H⟩ := H; replace H := gd_ H; obtain ⟨c15b0, H⟩ := H; replace H := (sp_ H).symm; obtain ⟨c17, H⟩ | ⟨c17, H⟩ := H
    ·
     have c17b0 := beq_eq_false_iff_ne.mpr c17; have c17b1 := bne_iff_ne.mpr c17; obtain rfl := Option.some.inj H; have p16 : (0 ≤ (x1_1 : Int)) = True := dT_; have q16 : (x1_1 < (a0.size : Int)) = True := dT_; have hx16 := bt_at a0 x1_1
     go_wp2
     go_ret
     exact ⟨by first | rfl | (simp; done) | (simp [*]; done) | (simp <;> rfl), by repeat (first | exact Drawn0.refl _ | apply Drawn0.step)⟩
    have c17b0 := beq_iff_eq.mpr c17; have c17b1 := bne_eq_false_iff_eq.mpr c17; clear c17; have H' := Aside0.mk H; clear H; have p16 : (0 ≤ (x1_1 : Int)) = True := dT_; have q16 : (x1_1 < (a0.size : Int)) = True := dT_; have hx16 := bt_at a0 x1_1
    go_wp2
    go_loopg [1] kj3 (fun kq v1 w' => ∃ (x1_3 : Int), v1 = .int .i64 x1_3 ∧ Aside0 (salchowref09_skip.l1 kq a0 x1_3 = some r) ∧ Aside0 (kq ≤ kj3) ∧ Drawn0 w w')
    case atStart => exact ⟨(x1_1), sr_, H', ⟨Nat.le_refl _⟩, by repeat (first | exact Drawn0.refl _ | apply Drawn0.step)⟩
    case round =>
     clear H'; (try clear c3); (try clear c3b0); (try clear c13); (try clear c14); (try clear c14b0); (try clear c15); (try clear c15b0); (try clear p16); (try clear q16); (try clear hx16); (try clear c17); (try clear c17b0); (try clear c17b1); (try clear p16); (try clear q16); obtain ⟨x1_3, rfl, HA, HK3, ⟨m3, rfl⟩⟩ := hrel; obtain _ | k3 := gk
     · exact absurd HA.out (by simp [salchowref09_skip.l1])
     have H := HA.out; clear HA; simp only [salchowref09_skip.l1] at H; replace H := (sd_ H).symm; obtain ⟨c18b0, H⟩ | ⟨c18b0, H⟩ := H
     ·
      have H' := Aside0.mk H; clear H
      go_wp2
      go_roundg k3
      case measure => have := HK1.out; have := HJ3.out; have := HK3.out; omega
      case rel => exact ⟨(x1_3), sr_, H', ⟨by have := HK1.out; have := HJ3.out; have := HK3.out; omega⟩, by repeat (first | exact Drawn0.refl _ | apply Drawn0.step)⟩
     replace H := gd_ H; obtain ⟨c19b0, H⟩ := H; replace H := (sp_ H).symm; obtain ⟨c21, H⟩ | ⟨c21, H⟩ := H
     ·
      have c21b0 := beq_eq_false_iff_ne.mpr c21; have c21b1 := bne_iff_ne.mpr c21; have H' := Aside0.mk H; clear H; have p20 : (0 ≤ (x1_3 : Int)) = True := dT_; have q20 : (x1_3 < (a0.size : Int)) = True := dT_; have hx20 := bt_at a0 x1_3
      go_wp2
      go_roundg k3
      case measure => have := HK1.out; have := HJ3.out; have := HK3.out; omega
      case rel => exact ⟨(wrap64 (x1_3 + 1)), sr_, H', ⟨by have := HK1.out; have := HJ3.out; have := HK3.out; omega⟩, by repeat (first | exact Drawn0.refl _ | apply Drawn0.step)⟩
     have c21b0 := beq_iff_eq.mpr c21; have c21b1 := bne_eq_false_iff_eq.mpr c21; clear c21; have H' := Aside0.mk H; clear H; have p20 : (0 ≤ (x1_3 : Int)) = True := dT_; have q20 : (x1_3 < (a0.size : Int)) = True := dT_; have hx20 := bt_at a0 x1_3
     go_wp2
     go_roundg k3
     case measure => have := HK1.out; have := HJ3.out; have := HK3.out; omega
     case rel => exact ⟨(x1_3), sr_, H', ⟨by have := HK1.out; have := HJ3.out; have := HK3.out; omega⟩, by repeat (first | exact Drawn0.refl _ | apply Drawn0.step)⟩
end Go.Proofs.YtkifdadhojbohaaDoor.Pr
namespace Go.Proofs.YtkifdadhojbohaaDoor.Pu
open Go.RowKit Go.Proofs.YtkifdadhojbohaaDoor Go.Proofs.YtkifdadhojbohaaDoor.Pr Go.Proofs.YtkifdadhojbohaaDoorW.PrintWords Go.Proofs.YtkifdadhojbohaaDoorW.PrintLast
theorem Ev.succ {α : Type} {g : Nat → Option α} {r : α} (h : Ev (fun k => g (k + 1)) r) : Ev g r := Ev.step (fun _ => rfl) h
theorem Ev.ifp {α : Type} {c : Prop} [Decidable c] {f g : Nat → Option α} {r : α} (hc : c) (h : Ev f r) : Ev (fun k => if c then f k else g k) r := by
  simpa only [if_pos hc] using h
theorem Ev.ifn {α : Type} {c : Prop} [Decidable c] {f g : Nat → Option α} {r : α} (hc : ¬ c) (h : Ev g r) : Ev (fun k => if c then f k else g k) r := by
  simpa only [if_neg hc] using h
theorem Ev.val {α β : Type} {x : Option α} {a : α} {f : Nat → α → Option β} {r : β} (hx : x = some a) (h : Ev (fun k => f k a) r) : Ev (fun k => x.bind (f k)) r := by
  subst hx; exact h
theorem Ev.ret {α : Type} {r s : α} (h : r = s) : Ev (fun _ => some r) s := by subst h; exact Ev.now r
theorem wrap64_of {i : Int} (h0 : -9223372036854775808 ≤ i) (h1 : i < 9223372036854775808) : wrap64 i = i := by unfold wrap64; omega
def lst (s : ByteArray) : List UInt8 := s.data.toList
theorem lst_length (s : ByteArray) : (lst s).length = s.size := rfl
theorem toList_lst (s : ByteArray) : s.toList = lst s := ByteArray.toList_eq s
theorem lst_inj {s t : ByteArray} (h : lst s = lst t) : s = t := by
  cases s; cases t
  simp only [lst, Array.toList_inj] at h
  subst h; rfl
def str (l : List UInt8) : ByteArray := ⟨l.toArray⟩
@[simp] theorem lst_str (l : List UInt8) : lst (str l) = l := rfl
@[simp] theorem str_lst (s : ByteArray) : str (lst s) = s := lst_inj rfl
@[simp] theorem size_str (l : List UInt8) : (str l).size = l.length := by simp [str, ByteArray.size]
theorem lst_append (s t : ByteArray) : lst (s ++ t) = lst s ++ lst t := by simp [lst]
theorem lst_extract (s : ByteArray) (a b : Nat) : lst (s.extract a b) = ((lst s).take b).drop a := by
  rw [lst, Lib.extract_data, List.drop_take]
  rfl
theorem at_cons {s : ByteArray} {i : Nat} {c : UInt8} {l : List UInt8} (h : (lst s).drop i = c :: l) : i < s.size ∧ bt s i = (c.toNat : Int) ∧ (lst s).drop (i + 1) = l := by
  have hi : i < s.size := by
    rw [← lst_length]
    apply Classical.byContradiction
    intro hn
    rw [List.drop_eq_nil_of_le (by omega)] at h
    cases h
  have hg : (lst s)[i]? = some c := by
    have := congrArg (·[0]?) h
    simpa using this
  refine ⟨hi, ?_, ?_⟩
  · unfold bt
    rw [dif_pos (by simpa using hi)]
    have : s[i]'hi = c := by
      have h2 := List.getElem?_eq_some_iff.1 hg
      exact h2.2
    simp only [Int.toNat_natCast]
    rw [this]
  · have := congrArg List.tail h
    rwa [List.tail_drop] at this
theorem at_nil {s : ByteArray} {i : Nat} (hi : i ≤ s.size) (h : (lst s).drop i = []) : i = s.size := by
  rw [List.drop_eq_nil_iff, lst_length] at h
  omega
theorem kinds_f : lexer_kinds.f = some (.agg (tabAt 256)) := rfl
theorem at_byte (c : UInt8) : lexer_kinds.at_ (c.toNat : Int) = (kindOf c.toNat : Int) := by simp [lexer_kinds.at_]
theorem byte_lt (c : UInt8) : (c.toNat : Int) < 256 := by have := c.toNat_lt; omega
def skipL : Bool → List UInt8 → List UInt8
  | _, [] => []
  | true, c :: l => if c.toNat = 10 then skipL false l else skipL true l
  | false, c :: l => if c.toNat = 35 then skipL true l else if kindOf c.toNat = 1 then skipL false l else c :: l
theorem skip_prog (s : ByteArray) (hs : s.size ≤ 1000000) : ∀ (d : Nat) (i : Nat) (l : List UInt8), i ≤ s.size → s.size - i = d → (lst s).drop i = l →
    Ev (fun k => lexer_skip.l0 k s i) (s.size - (skipL false l).length) ∧ Ev (fun k => lexer_skip.l1 k s i) (s.size - (skipL true l).length) := by
  intro d
  induction d with
  | zero =>
    intro i l hi hd hl
    obtain rfl : i = s.size := by omega
    obtain rfl : l = [] := by rw [← hl]; exact List.drop_eq_nil_of_le (by rw [lst_length]; omega)
    have h0 : Ev (fun k => lexer_skip.l0 k s (s.size : Int)) (s.size - (skipL false []).length) := by
      refine Ev.succ ?_
      simp only [lexer_skip.l0]
      refine Ev.ifn (by omega) (Ev.ret (by simp [skipL]))
    refine ⟨h0, ?_⟩
    refine Ev.succ ?_
    simp only [lexer_skip.l1]
    exact Ev.ifn (by omega) h0
  | succ d ih =>
    intro i l hi hd hl
    cases l with
    | nil => exact absurd (at_nil hi hl) (by omega)
    | cons c l =>
      obtain ⟨h1, h2, h3⟩ := at_cons hl
      obtain ⟨ihf, iht⟩ := ih (i + 1) l (by omega) (by omega) h3
      have hw : wrap64 ((i : Int) + 1) = ((i + 1 : Nat) : Int) := by rw [wrap64_of (by omega) (by omega)]; rfl
      have hf : Ev (fun k => lexer_skip.l1 k s i) (s.size - (skipL true (c :: l)).length) → Ev (fun k => lexer_skip.l0 k s i) (s.size - (skipL false (c :: l)).length) := by
        intro ht
        refine Ev.succ ?_
        simp only [lexer_skip.l0]
        rw [h2]
        refine Ev.ifp (by omega) (Ev.ifp (by omega) ?_)
        by_cases h35 : c.toNat = 35
        · refine Ev.ifp (by omega) ?_
          unfold skipL
          rw [if_pos h35]
          unfold skipL at ht
          rw [if_neg (by omega)] at ht
          exact ht
        · refine Ev.ifn (by omega) (Ev.val kinds_f (Ev.ifp (by omega) (Ev.ifp (byte_lt c) ?_)))
          rw [at_byte]
          unfold skipL
          rw [if_neg h35]
          by_cases hk : kindOf c.toNat = 1
          · refine Ev.ifp (by omega) ?_
            rw [hw, if_pos hk]; exact ihf
          · refine Ev.ifn (by omega) (Ev.ret ?_)
            rw [if_neg hk, ← hl, List.length_drop, lst_length]; omega
      have ht : Ev (fun k => lexer_skip.l1 k s i) (s.size - (skipL true (c :: l)).length) := by
        by_cases h10 : c.toNat = 10
        · refine Ev.succ ?_
          simp only [lexer_skip.l1]
          rw [h2]
          refine Ev.ifp (by omega) (Ev.ifp (by omega) (Ev.ifp (by omega) ?_))
          refine Ev.succ ?_
          simp only [lexer_skip.l0]
          rw [h2]
          refine Ev.ifp (by omega) (Ev.ifp (by omega) (Ev.ifn (by omega) (Ev.val kinds_f (Ev.ifp (by omega) (Ev.ifp (byte_lt c) ?_)))))
          rw [at_byte]
          unfold skipL
          rw [if_pos h10]
          refine Ev.ifp (by rw [h10]; decide) ?_
          rw [hw]; exact ihf
        · refine Ev.succ ?_
          simp only [lexer_skip.l1]
          rw [h2]
          refine Ev.ifp (by omega) (Ev.ifp (by omega) (Ev.ifn (by omega) ?_))
          unfold skipL
          rw [if_neg h10, hw]; exact iht
      exact ⟨hf ht, ht⟩
theorem skip_f (s : ByteArray) (hs : s.size ≤ 1000000) (i : Nat) (hi : i ≤ s.size) : Ev (fun k => lexer_skip.f k s i) (s.size - (skipL false ((lst s).drop i)).length) := (skip_prog s hs _ i _ hi rfl rfl).1
end Go.Proofs.YtkifdadhojbohaaDoor.Pu
namespace Go.Proofs.YtkifdadhojbohaaDoor.Pr
open Go.Proofs.YtkifdadhojbohaaDoor
open Go.RowKit Go.Proofs.YtkifdadhojbohaaDoorW.PrintWords Go.Proofs.YtkifdadhojbohaaDoorW.PrintLast Go.Proofs.YtkifdadhojbohaaDoorW.PrintMore
attribute [local go_sem] max2_int min2_int max_two min_two max_three min_three max_four min_four   -- for this text's walks alone
set_option linter.unusedVariables false
set_option linter.unusedSimpArgs false
def lexer_isRun.f (a0 : Int) : Option (Bool) := (lexer_kinds.f).bind fun t102 => (if 0 ≤ a0 then (if a0 < 256 then (if (lexer_kinds.at_ a0) = 2 then (some true) else ((lexer_kinds.f).bind fun t103 => (if (lexer_kinds.at_ a0) = 3 then (some true) else ((lexer_kinds.f).bind fun t104 => (some ((lexer_kinds.at_ a0) == 4)))))) else (none)) else (none))
theorem lexer_isRun.calls (a0 : Int) (r : Bool) (w : World) (h : lexer_isRun.f a0 = some r) :
  Calls Tryd.prog 82 #[.int .u8 a0] w fun e w' => e = .returned (.bool r) ∧ Below w.heap.size w w' := by
 have HB := Aside0.mk (Below.refl w.heap.size w); have H : ((lexer_kinds.f).bind fun t102 => (if 0 ≤ a0 then (if a0 < 256 then (if (lexer_kinds.at_ a0) = 2 then (some true) else ((lexer_kinds.f).bind fun t103 => (if (lexer_kinds.at_ a0) = 3 then (some true) else ((lexer_kinds.f).bind fun t104 => (some ((lexer_kinds.at_ a0) == 4)))))) else (none)) else (none))) = some r := h; clear h; replace H := bn_ H; obtain ⟨t102, A2, H⟩ := H; (try dsimp only at H); replace H := gd_ H; obtain ⟨c3b0, H⟩ := H; replace H := gd_ H; obtain ⟨c4b0, H⟩ := H; replace H := sp_ H; obtain ⟨c6, H⟩ | ⟨c6, H⟩ := H
 ·
  have c6b0 := beq_iff_eq.mpr c6; have c6b1 := bne_eq_false_iff_eq.mpr c6; clear c6; obtain rfl := Option.some.inj H
  go_enter Tryd.func82, Tryd.ntmps82
  go_wp2_with (first | ((with_reducible refine gate_callee (f := 65) rfl ?_); refine gk_ (some 3) Tryd.func65 (lexer_kinds.calls  t102 _ A2.out) ?_; rintro e w7 ⟨rfl, hb⟩; refine ⟨_, rfl, ?_⟩; refine cut1_ (below_step (bl_ HB.out) hb) ?_; clear hb HB; intro HB; have p5 : 0 ≤ (a0 : Int) := dt_; have q5 : (a0 : Int) < 256 := dt_; have hx5 := lexer_kinds.at_run A2.out a0 p5 q5; replace p5 := eq_true p5; replace q5 := eq_true q5))
  go_ret
  exact ⟨er_, bl_ HB.out⟩
 have c6b0 := beq_eq_false_iff_ne.mpr c6; have c6b1 := bne_iff_ne.mpr c6; replace H := bn_ H; obtain ⟨t103, A8, H⟩ := H; (try dsimp only at H); replace H := sp_ H; obtain ⟨c10, H⟩ | ⟨c10, H⟩ := H
 ·
  have c10b0 := beq_iff_eq.mpr c10; have c10b1 := bne_eq_false_iff_eq.mpr c10; clear c10; obtain rfl := Option.some.inj H
  go_enter Tryd.func82, Tryd.ntmps82
  go_wp2_with (first | ((with_reducible refine gate_callee (f := 65) rfl ?_); refine gk_ (some 3) Tryd.func65 (lexer_kinds.calls  t102 _ A2.out) ?_; rintro e w11 ⟨rfl, hb⟩; refine ⟨_, rfl, ?_⟩; refine cut1_ (below_step (bl_ HB.out) hb) ?_; clear hb HB; intro HB; have p5 : 0 ≤ (a0 : Int) := dt_; have q5 : (a0 : Int) < 256 := dt_; have hx5 := lexer_kinds.at_run A2.out a0 p5 q5; replace p5 := eq_true p5; replace q5 := eq_true q5) | (go_at_call 65; (with_reducible refine (lexer_kinds.calls  t103 _ A8.out).mono ?_); rintro e w12 ⟨rfl, hb⟩; refine cut1_ (below_step (bl_ HB.out) hb) ?_; clear HB; intro HB; (try clear hb); (try clear hb2); (try clear hk); (try clear hi); have p9 : 0 ≤ (a0 : Int) := dt_; have q9 : (a0 : Int) < 256 := dt_; have hx9 := lexer_kinds.at_run A8.out a0 p9 q9; replace p9 := eq_true p9; replace q9 := eq_true q9))
  go_ret
  exact ⟨er_, bl_ HB.out⟩
 have c10b0 := beq_eq_false_iff_ne.mpr c10; have c10b1 := bne_iff_ne.mpr c10; replace H := bn_ H; obtain ⟨t104, A13, H⟩ := H; (try dsimp only at H); obtain rfl := Option.some.inj H
 go_enter Tryd.func82, Tryd.ntmps82
 go_wp2_with (first | ((with_reducible refine gate_callee (f := 65) rfl ?_); refine gk_ (some 3) Tryd.func65 (lexer_kinds.calls  t102 _ A2.out) ?_; rintro e w15 ⟨rfl, hb⟩; refine ⟨_, rfl, ?_⟩; refine cut1_ (below_step (bl_ HB.out) hb) ?_; clear hb HB; intro HB; have p5 : 0 ≤ (a0 : Int) := dt_; have q5 : (a0 : Int) < 256 := dt_; have hx5 := lexer_kinds.at_run A2.out a0 p5 q5; replace p5 := eq_true p5; replace q5 := eq_true q5) | (go_at_call 65; (with_reducible refine (lexer_kinds.calls  t103 _ A8.out).mono ?_); rintro e w16 ⟨rfl, hb⟩; refine cut1_ (below_step (bl_ HB.out) hb) ?_; clear HB; intro HB; (try clear hb); (try clear hb2); (try clear hk); (try clear hi); have p9 : 0 ≤ (a0 : Int) := dt_; have q9 : (a0 : Int) < 256 := dt_; have hx9 := lexer_kinds.at_run A8.out a0 p9 q9; replace p9 := eq_true p9; replace q9 := eq_true q9) | (go_at_call 65; (with_reducible refine (lexer_kinds.calls  t104 _ A13.out).mono ?_); rintro e w17 ⟨rfl, hb⟩; refine cut1_ (below_step (bl_ HB.out) hb) ?_; clear HB; intro HB; (try clear hb); (try clear hb2); (try clear hk); (try clear hi); have p14 : 0 ≤ (a0 : Int) := dt_; have q14 : (a0 : Int) < 256 := dt_; have hx14 := lexer_kinds.at_run A13.out a0 p14 q14; replace p14 := eq_true p14; replace q14 := eq_true q14))
 go_ret
 exact ⟨er_, bl_ HB.out⟩
def lexer_word.l0 : Nat → ByteArray → Bool → Int → Int → Option (Int)
 | 0, _, _, _, _ => none
 | k + 1, x0, x3, x6, x7 => if x7 < x6 then (if 0 ≤ x7 then (if x7 < (x0.size : Int) then (if (bt x0 x7) = 46 then (some 2) else (if x3 = true then (lexer_word.l0 k x0 true x6 (wrap64 (x7 + 1))) else ((lexer_kinds.f).bind fun t105 => (if 0 ≤ (bt x0 x7) then (if (bt x0 x7) < 256 then (if (lexer_kinds.at_ (bt x0 x7)) = 2 then (lexer_word.l0 k x0 ((bt x0 x7) != 95) x6 (wrap64 (x7 + 1))) else (lexer_word.l0 k x0 false x6 (wrap64 (x7 + 1)))) else (none)) else (none))))) else (none)) else (none)) else (if x3 = true then (if (x0.size : Int) > 32 then (some 6) else (some 0)) else (some 2))
def lexer_word.f (k : Nat) (a0 : ByteArray) : Option (Int) := lexer_word.l0 k a0 false (a0.size : Int) 0
theorem lexer_word.mono_l : ∀ k, (∀ y0 y1 y2 y3, LeO (lexer_word.l0 k y0 y1 y2 y3) (lexer_word.l0 (k + 1) y0 y1 y2 y3))
 | 0 => fun _ _ _ _ r h => by simp [lexer_word.l0] at h
 | k + 1 => by
  have ih0 := lexer_word.mono_l k
  ·
   intro y0 y1 y2 y3
   unfold lexer_word.l0
   repeat' first
   | (with_reducible exact LeO.refl _)
   | exact ih0 _ _ _ _
   | exact LeO.none _
   | refine LeO.ite ?_ ?_
   | refine LeO.bind ?_ (fun _ => ?_)
theorem lexer_word.mono : ∀ a0 k, LeO (lexer_word.f k a0) (lexer_word.f (k + 1) a0) := by
 intro a0 k
 have ih0 := lexer_word.mono_l k
 unfold lexer_word.f
 repeat' first
   | (with_reducible exact LeO.refl _)
   | exact ih0 _ _ _ _
   | exact LeO.none _
   | refine LeO.ite ?_ ?_
   | refine LeO.bind ?_ (fun _ => ?_)
def lexer_word.T7 : Bool × List (List Nat × List Nat) := (true, [([], []), ([0], [0]), ([1, 1], [1]), ([1], [1]), ([1], [1]), ([3, 4, 1], [1, 3, 4]), ([2, 5, 1], [1, 2, 5]), ([6, 1], [1, 6]), ([7, 2, 1], [1, 7]), ([8], [8]), ([8], [8]), ([9, 10, 8], [8, 9, 10]), ([11, 8], [8, 11]), ([8, 12, 1], [1, 8, 12]), ([1, 13], [1, 13]), ([14, 8, 0, 1, 2, 3, 4, 5, 6, 7, 8, 9, 10, 11, 12, 13, 14], [0, 14])])
def lexer_word.B7 : List Nat := [0, 1, 3, 3, 3, 27, 63, 127, 255, 511, 511, 2047, 4095, 8191, 16383, 32767]
theorem lexer_word.tab7 : rtab .any (opsOf Tryd.f91 7) = lexer_word.T7 := by kernel_rfl
theorem lexer_word.bits7 : waitsOk lexer_word.T7.2 lexer_word.B7 = true := by kernel_rfl
theorem lexer_word.calls (k : Nat) (a0 : ByteArray) (r : Int) (w : World) (h : lexer_word.f k a0 = some r) :
  Calls Tryd.prog 91 #[.string a0] w fun e w' => e = .returned (.int .i64 r) ∧ Below w.heap.size w w' := by
 have HB := Aside0.mk (Below.refl w.heap.size w); have H : (lexer_word.l0 k a0 false (a0.size : Int) 0) = some r := h; clear h; have H' := Aside0.mk H; clear H
 go_enter Tryd.func91, Tryd.ntmps91
 go_wp2
 go_loopg [3, 7] k (fun kq v3 v7 w' => ∃ (x3_1 : Bool) (x7_1 : Int), v3 = .bool x3_1 ∧ v7 = .int .i64 x7_1 ∧ Aside0 (lexer_word.l0 kq a0 x3_1 (a0.size : Int) x7_1 = some r) ∧ Aside0 (kq ≤ k) ∧ Aside0 (Below w.heap.size w w'))
 case atStart => exact ⟨(false), (0), sr_, sr_, H', ⟨Nat.le_refl _⟩, ⟨bl_ HB.out⟩⟩
 case round =>
  clear H'; obtain ⟨x3_1, x7_1, rfl, rfl, HA, HK1, HB⟩ := hrel; obtain _ | k1 := gk
  · exact absurd HA.out (by simp [lexer_word.l0])
  have H := HA.out; clear HA; simp only [lexer_word.l0] at H; replace H := (sd_ H).symm; obtain ⟨c2b0, H⟩ | ⟨c2b0, H⟩ := H
  ·
   replace H := (sb_ H).symm; obtain ⟨rfl, H⟩ | ⟨rfl, H⟩ := H
   ·
    obtain rfl := Option.some.inj H
    go_wp2
    go_ret
    exact ⟨er_, bl_ HB.out⟩
   replace H := sp_ H; obtain ⟨c21, H⟩ | ⟨c21, H⟩ := H
   ·
    have c21b0 := decide_eq_true c21; have c21b1 : decide (32 < a0.size) = true := decide_eq_true (by omega); clear c21; obtain rfl := Option.some.inj H
    go_wp2
    go_ret
    exact ⟨er_, bl_ HB.out⟩
   have c21b0 := decide_eq_false c21; have c21b1 : decide (32 < a0.size) = false := decide_eq_false (by omega); clear c21; obtain rfl := Option.some.inj H
   go_wp2
   go_ret
   exact ⟨er_, bl_ HB.out⟩
  replace H := gd_ H; obtain ⟨c3b0, H⟩ := H; replace H := gd_ H; obtain ⟨c4b0, H⟩ := H; replace H := sp_ H; obtain ⟨c6, H⟩ | ⟨c6, H⟩ := H
  ·
   have c6b0 := beq_iff_eq.mpr c6; have c6b1 := bne_eq_false_iff_eq.mpr c6; clear c6; obtain rfl := Option.some.inj H; have p5 : (0 ≤ (x7_1 : Int)) = True := dT_; have q5 : (x7_1 < (a0.size : Int)) = True := dT_; have hx5 := bt_at a0 x7_1
   go_wp2
   go_ret
   exact ⟨er_, bl_ HB.out⟩
  have c6b0 := beq_eq_false_iff_ne.mpr c6; have c6b1 := bne_iff_ne.mpr c6; replace H := sb_ H; obtain ⟨rfl, H⟩ | ⟨rfl, H⟩ := H
  ·
   have H' := Aside0.mk H; clear H; have p5 : (0 ≤ (x7_1 : Int)) = True := dT_; have q5 : (x7_1 < (a0.size : Int)) = True := dT_; have hx5 := bt_at a0 x7_1
   try go_wp2
   refine cut1_ (below_drew1 HB.out) ?_; clear HB; intro HB; refine start_ (n := 16) (S := fun w' => True) (ds := []) (bm_ 16 0) (by kernel_rfl) rfl (by kernel_rfl) trivial (fun hHeld => ?_); refine with_tabW lexer_word.tab7 lexer_word.bits7 (fun HT_ HW_ => ?_); generalize wr.drew = w8 at HB hHeld ⊢; refine pt_ HT_.out (i := 0) (N := some 14) (bm_ 16 1) ?_; refine pt_ HT_.out (i := 1) (N := some 15) (bm_ 16 3) ?_; refine pure_ (i := 2) (N := some 16) (v := undef) (a' := ?_) (bm_ 16 7) rfl rfl (any_of HT_.out (by kernel_rfl)) (fun _ _ _ h => h) (Or.inr ⟨by rfl, rfl⟩) ?_ ?_; rotate_left
   ·
    simp only [Act.put, List.setIfInBounds_toArray, List.set_cons_zero, List.set_cons_succ, i64_w, i32_w]
    rfl
   refine pure_ (i := 3) (N := some 17) (v := undef) (a' := ?_) (bm_ 16 15) rfl rfl (any_of HT_.out (by kernel_rfl)) (fun _ _ _ h => h) (Or.inr ⟨by rfl, rfl⟩) ?_ ?_; rotate_left
   ·
    simp only [Act.put, List.setIfInBounds_toArray, List.set_cons_zero, List.set_cons_succ, i64_w, i32_w]
    rfl
   refine pure_ (i := 4) (N := some 18) (v := undef) (a' := ?_) (bm_ 16 31) rfl rfl (any_of HT_.out (by kernel_rfl)) (fun _ _ _ h => h) (Or.inr ⟨by rfl, rfl⟩) ?_ ?_; rotate_left
   ·
    simp only [Act.put, List.setIfInBounds_toArray, List.set_cons_zero, List.set_cons_succ, i64_w, i32_w]
    rfl
   refine pure_ (i := 5) (N := some 19) (v := undef) (a' := ?_) (bm_ 16 63) rfl rfl (any_of HT_.out (by kernel_rfl)) (fun _ _ _ h => h) (Or.inr ⟨by rfl, rfl⟩) ?_ ?_; rotate_left
   ·
    simp only [Act.put, List.setIfInBounds_toArray, List.set_cons_zero, List.set_cons_succ, i64_w, i32_w]
    rfl
   refine pure_ (i := 6) (N := some 20) (v := undef) (a' := ?_) (bm_ 16 127) rfl rfl (any_of HT_.out (by kernel_rfl)) (fun _ _ _ h => h) (Or.inr ⟨by rfl, rfl⟩) ?_ ?_; rotate_left
   ·
    simp only [Act.put, List.setIfInBounds_toArray, List.set_cons_zero, List.set_cons_succ, i64_w, i32_w]
    rfl
   refine pure_ (i := 7) (N := some 21) (v := undef) (a' := ?_) (bm_ 16 255) rfl rfl (any_of HT_.out (by kernel_rfl)) (fun _ _ _ h => h) (Or.inr ⟨by rfl, rfl⟩) ?_ ?_; rotate_left
   ·
    simp only [Act.put, List.setIfInBounds_toArray, List.set_cons_zero, List.set_cons_succ, i64_w, i32_w]
    rfl
   refine pure_ (i := 8) (N := some 22) (v := undef) (a' := ?_) (bm_ 16 511) rfl rfl (any_of HT_.out (by kernel_rfl)) (fun _ _ _ h => h) (Or.inr ⟨by rfl, rfl⟩) ?_ ?_; rotate_left
   ·
    simp only [Act.put, List.setIfInBounds_toArray, List.set_cons_zero, List.set_cons_succ, i64_w, i32_w]
    rfl
   refine pure_ (i := 9) (N := some 23) (v := undef) (a' := ?_) (bm_ 16 1023) rfl rfl (any_of HT_.out (by kernel_rfl)) (fun _ _ _ h => h) (Or.inr ⟨by rfl, rfl⟩) ?_ ?_; rotate_left
   ·
    simp only [Act.put, List.setIfInBounds_toArray, List.set_cons_zero, List.set_cons_succ, i64_w, i32_w]
    rfl
   refine pure_ (i := 10) (N := some 24) (v := undef) (a' := ?_) (bm_ 16 2047) rfl rfl (any_of HT_.out (by kernel_rfl)) (fun _ _ _ h => h) (Or.inr ⟨by rfl, rfl⟩) ?_ ?_; rotate_left
   ·
    simp only [Act.put, List.setIfInBounds_toArray, List.set_cons_zero, List.set_cons_succ, i64_w, i32_w]
    rfl
   refine pure_ (i := 11) (N := some 25) (v := undef) (a' := ?_) (bm_ 16 4095) rfl rfl (any_of HT_.out (by kernel_rfl)) (fun _ _ _ h => h) (Or.inr ⟨by rfl, rfl⟩) ?_ ?_; rotate_left
   ·
    simp only [Act.put, List.setIfInBounds_toArray, List.set_cons_zero, List.set_cons_succ, i64_w, i32_w]
    rfl
   refine pure_ (i := 12) (N := some 26) (v := undef) (a' := ?_) (bm_ 16 8191) rfl rfl (any_of HT_.out (by kernel_rfl)) (fun _ _ _ h => h) (Or.inr ⟨by rfl, rfl⟩) ?_ ?_; rotate_left
   ·
    simp only [Act.put, List.setIfInBounds_toArray, List.set_cons_zero, List.set_cons_succ, i64_w, i32_w]
    rfl
   refine pure_ (i := 13) (N := some 27) (v := undef) (a' := ?_) (bm_ 16 16383) rfl rfl (any_of HT_.out (by kernel_rfl)) (fun _ _ _ h => h) (Or.inr ⟨by rfl, rfl⟩) ?_ ?_; rotate_left
   ·
    simp only [Act.put, List.setIfInBounds_toArray, List.set_cons_zero, List.set_cons_succ, i64_w, i32_w]
    rfl
   refine pt_ HT_.out (i := 14) (N := some 28) (bm_ 16 32767) ?_; refine pt_ HT_.out (i := 15) (N := some 3) (bm_ 16 65535) ?_; refine done_ (done_of HT_.out (by kernel_rfl)) ?_
   try go_wp2
   go_roundg k1
   case measure => have := HK1.out; omega
   case rel => exact ⟨(true), (wrap64 (x7_1 + 1)), sr_, sr_, H', ⟨om_ HK1.out⟩, ⟨bl_ HB.out⟩⟩
  replace H := bn_ H; obtain ⟨t105, A9, H⟩ := H; (try dsimp only at H); replace H := gd_ H; obtain ⟨c11b0, H⟩ := H; replace H := gd_ H; obtain ⟨c12b0, H⟩ := H; replace H := sp_ H; obtain ⟨c14, H⟩ | ⟨c14, H⟩ := H
  ·
   have c14b0 := beq_iff_eq.mpr c14; have c14b1 := bne_eq_false_iff_eq.mpr c14; clear c14; have H' := Aside0.mk H; clear H; have p5 : (0 ≤ (x7_1 : Int)) = True := dT_; have q5 : (x7_1 < (a0.size : Int)) = True := dT_; have hx5 := bt_at a0 x7_1
   try go_wp2
   refine cut1_ (below_drew1 HB.out) ?_; clear HB; intro HB; have p10 : (0 ≤ (x7_1 : Int)) = True := dT_; have q10 : (x7_1 < (a0.size : Int)) = True := dT_; have hx10 := bt_at a0 x7_1; refine start_ (n := 16) (S := fun w' => True) (ds := []) (bm_ 16 0) (by kernel_rfl) rfl (by kernel_rfl) trivial (fun hHeld => ?_); refine with_tabW lexer_word.tab7 lexer_word.bits7 (fun HT_ HW_ => ?_); generalize wr.drew = w16 at HB hHeld ⊢; refine pt_ HT_.out (i := 0) (N := some 14) (bm_ 16 1) ?_; refine pt_ HT_.out (i := 1) (N := some 15) (bm_ 16 3) ?_; refine pt_ HT_.out (i := 3) (N := some 17) (bm_ 16 11) ?_; refine pt_ HT_.out (i := 4) (N := some 18) (bm_ 16 27) ?_; refine take_ (i := 5) (N := some 19) (v := ?_) (a' := ?_) (bm_ 16 59) rfl rfl (take_ofW HT_.out HW_.out (by kernel_rfl)) (fun _ _ _ h => h) (Or.inl ⟨by rfl, ?_⟩) hHeld ?_ ?_; rotate_left
   ·
    intro w' _; go_simp
    with_reducible rfl
   rotate_left
   ·
    simp only [Act.put, List.setIfInBounds_toArray, List.set_cons_zero, List.set_cons_succ, i64_w, i32_w]
    rfl
   refine on_ HT_.out (i := 2) (N := some 16) (bm_ 16 63) (fun K hK => ?_); refine goes_ Tryd.func65 (by kernel_rfl) rfl #[] (by rfl) rfl rfl ga_ ?_
   with_reducible refine (lexer_kinds.calls  t105 _ A9.out).mono ?_
   rintro e w17 ⟨rfl, hb⟩; refine ⟨_, rfl, ?_⟩; refine cut1_ (below_step (bl_ HB.out) hb) ?_; clear HB; intro HB; (try clear hb); have p13 : 0 ≤ ((bt a0 x7_1) : Int) := dt_; have q13 : ((bt a0 x7_1) : Int) < 256 := dt_; have hx13 := lexer_kinds.at_run A9.out (bt a0 x7_1) p13 q13; replace p13 := eq_true p13; replace q13 := eq_true q13; have p15 : (0 ≤ (x7_1 : Int)) = True := dT_; have q15 : (x7_1 < (a0.size : Int)) = True := dT_; have hx15 := bt_at a0 x7_1; refine hK.out _ _ trivial (fun hHeld => ?_); clear hK K; refine nm_ ?_; refine take_ (i := 6) (N := some 20) (v := ?_) (a' := ?_) (bm_ 16 127) rfl rfl (take_ofW HT_.out HW_.out (by kernel_rfl)) (fun _ _ _ h => h) (Or.inl ⟨by rfl, ?_⟩) hHeld ?_ ?_; rotate_left
   ·
    intro w' _; go_simp
    with_reducible rfl
   rotate_left
   ·
    simp only [Act.put, List.setIfInBounds_toArray, List.set_cons_zero, List.set_cons_succ, i64_w, i32_w]
    rfl
   refine pt_ HT_.out (i := 7) (N := some 21) (bm_ 16 255) ?_; refine pt_ HT_.out (i := 8) (N := some 22) (bm_ 16 511) ?_; refine pt_ HT_.out (i := 9) (N := some 23) (bm_ 16 1023) ?_; refine pt_ HT_.out (i := 10) (N := some 24) (bm_ 16 2047) ?_; refine take_ (i := 11) (N := some 25) (v := ?_) (a' := ?_) (bm_ 16 4095) rfl rfl (take_ofW HT_.out HW_.out (by kernel_rfl)) (fun _ _ _ h => h) (Or.inl ⟨by rfl, ?_⟩) hHeld ?_ ?_; rotate_left
   ·
    intro w' _; go_simp
    with_reducible rfl
   rotate_left
   ·
    simp only [Act.put, List.setIfInBounds_toArray, List.set_cons_zero, List.set_cons_succ, i64_w, i32_w]
    rfl
   refine pt_ HT_.out (i := 12) (N := some 26) (bm_ 16 8191) ?_; refine pt_ HT_.out (i := 13) (N := some 27) (bm_ 16 16383) ?_; refine pt_ HT_.out (i := 14) (N := some 28) (bm_ 16 32767) ?_; refine pt_ HT_.out (i := 15) (N := some 3) (bm_ 16 65535) ?_; refine done_ (done_of HT_.out (by kernel_rfl)) ?_
   try go_wp2
   go_roundg k1
   case measure => have := HK1.out; omega
   case rel => exact ⟨(((bt a0 x7_1) != 95)), (wrap64 (x7_1 + 1)), sr_, sr_, H', ⟨om_ HK1.out⟩, ⟨bl_ HB.out⟩⟩
  have c14b0 := beq_eq_false_iff_ne.mpr c14; have c14b1 := bne_iff_ne.mpr c14; have H' := Aside0.mk H; clear H; have p5 : (0 ≤ (x7_1 : Int)) = True := dT_; have q5 : (x7_1 < (a0.size : Int)) = True := dT_; have hx5 := bt_at a0 x7_1
  try go_wp2
  refine cut1_ (below_drew1 HB.out) ?_; clear HB; intro HB; have p10 : (0 ≤ (x7_1 : Int)) = True := dT_; have q10 : (x7_1 < (a0.size : Int)) = True := dT_; have hx10 := bt_at a0 x7_1; refine start_ (n := 16) (S := fun w' => True) (ds := []) (bm_ 16 0) (by kernel_rfl) rfl (by kernel_rfl) trivial (fun hHeld => ?_); refine with_tabW lexer_word.tab7 lexer_word.bits7 (fun HT_ HW_ => ?_); generalize wr.drew = w18 at HB hHeld ⊢; refine pt_ HT_.out (i := 0) (N := some 14) (bm_ 16 1) ?_; refine pt_ HT_.out (i := 1) (N := some 15) (bm_ 16 3) ?_; refine pt_ HT_.out (i := 3) (N := some 17) (bm_ 16 11) ?_; refine pt_ HT_.out (i := 4) (N := some 18) (bm_ 16 27) ?_; refine take_ (i := 5) (N := some 19) (v := ?_) (a' := ?_) (bm_ 16 59) rfl rfl (take_ofW HT_.out HW_.out (by kernel_rfl)) (fun _ _ _ h => h) (Or.inl ⟨by rfl, ?_⟩) hHeld ?_ ?_; rotate_left
  ·
   intro w' _; go_simp
   with_reducible rfl
  rotate_left
  ·
   simp only [Act.put, List.setIfInBounds_toArray, List.set_cons_zero, List.set_cons_succ, i64_w, i32_w]
   rfl
  refine on_ HT_.out (i := 2) (N := some 16) (bm_ 16 63) (fun K hK => ?_); refine goes_ Tryd.func65 (by kernel_rfl) rfl #[] (by rfl) rfl rfl ga_ ?_
  with_reducible refine (lexer_kinds.calls  t105 _ A9.out).mono ?_
  rintro e w19 ⟨rfl, hb⟩; refine ⟨_, rfl, ?_⟩; refine cut1_ (below_step (bl_ HB.out) hb) ?_; clear HB; intro HB; (try clear hb); have p13 : 0 ≤ ((bt a0 x7_1) : Int) := dt_; have q13 : ((bt a0 x7_1) : Int) < 256 := dt_; have hx13 := lexer_kinds.at_run A9.out (bt a0 x7_1) p13 q13; replace p13 := eq_true p13; replace q13 := eq_true q13; refine hK.out _ _ trivial (fun hHeld => ?_); clear hK K; refine nm_ ?_; refine take_ (i := 6) (N := some 20) (v := ?_) (a' := ?_) (bm_ 16 127) rfl rfl (take_ofW HT_.out HW_.out (by kernel_rfl)) (fun _ _ _ h => h) (Or.inl ⟨by rfl, ?_⟩) hHeld ?_ ?_; rotate_left
  ·
   intro w' _; go_simp
   with_reducible rfl
  rotate_left
  ·
   simp only [Act.put, List.setIfInBounds_toArray, List.set_cons_zero, List.set_cons_succ, i64_w, i32_w]
   rfl
  refine pt_ HT_.out (i := 7) (N := some 21) (bm_ 16 255) ?_; refine pt_ HT_.out (i := 8) (N := some 22) (bm_ 16 511) ?_; refine pure_ (i := 9) (N := some 23) (v := undef) (a' := ?_) (bm_ 16 1023) rfl rfl (any_of HT_.out (by kernel_rfl)) (fun _ _ _ h => h) (Or.inr ⟨by rfl, rfl⟩) ?_ ?_; rotate_left
  ·
   simp only [Act.put, List.setIfInBounds_toArray, List.set_cons_zero, List.set_cons_succ, i64_w, i32_w]
   rfl
  refine pure_ (i := 10) (N := some 24) (v := undef) (a' := ?_) (bm_ 16 2047) rfl rfl (any_of HT_.out (by kernel_rfl)) (fun _ _ _ h => h) (Or.inr ⟨by rfl, rfl⟩) ?_ ?_; rotate_left
  ·
   simp only [Act.put, List.setIfInBounds_toArray, List.set_cons_zero, List.set_cons_succ, i64_w, i32_w]
   rfl
  refine pure_ (i := 11) (N := some 25) (v := undef) (a' := ?_) (bm_ 16 4095) rfl rfl (any_of HT_.out (by kernel_rfl)) (fun _ _ _ h => h) (Or.inr ⟨by rfl, rfl⟩) ?_ ?_; rotate_left
  ·
   simp only [Act.put, List.setIfInBounds_toArray, List.set_cons_zero, List.set_cons_succ, i64_w, i32_w]
   rfl
  refine pure_ (i := 12) (N := some 26) (v := undef) (a' := ?_) (bm_ 16 8191) rfl rfl (any_of HT_.out (by kernel_rfl)) (fun _ _ _ h => h) (Or.inr ⟨by rfl, rfl⟩) ?_ ?_; rotate_left
  ·
   simp only [Act.put, List.setIfInBounds_toArray, List.set_cons_zero, List.set_cons_succ, i64_w, i32_w]
   rfl
  refine pt_ HT_.out (i := 13) (N := some 27) (bm_ 16 16383) ?_; refine pt_ HT_.out (i := 14) (N := some 28) (bm_ 16 32767) ?_; refine pt_ HT_.out (i := 15) (N := some 3) (bm_ 16 65535) ?_; refine done_ (done_of HT_.out (by kernel_rfl)) ?_
  try go_wp2
  go_roundg k1
  case measure => have := HK1.out; omega
  case rel => exact ⟨(false), (wrap64 (x7_1 + 1)), sr_, sr_, H', ⟨om_ HK1.out⟩, ⟨bl_ HB.out⟩⟩
mutual
def lexer_number.j0 : Nat → ByteArray → ByteArray → Bool → Option (Int × Int)
 | 0, _, _, _ => none
 | k + 1, x4, x5, x39 => if x39 = true then (some (0, 2)) else (lexer_number.l0 k x4 x5 (wrap64 ((x4.size : Int) + (x5.size : Int))) 0)
def lexer_number.l0 : Nat → ByteArray → ByteArray → Int → Int → Option (Int × Int)
 | 0, _, _, _, _ => none
 | k + 1, x4, x5, x44, x45 => if x45 < x44 then ((lexer_kinds.f).bind fun t109 => (if x4.size + x5.size ≤ 9223372036854775807 then (if 0 ≤ x45 then (if x45 < ((x4 ++ x5).size : Int) then (if 0 ≤ (bt (x4 ++ x5) x45) then (if (bt (x4 ++ x5) x45) < 256 then (if (lexer_kinds.at_ (bt (x4 ++ x5) x45)) = 3 then (lexer_number.l0 k x4 x5 x44 (wrap64 (x45 + 1))) else (some (0, 2))) else (none)) else (none)) else (none)) else (none)) else (none))) else (if (x4.size : Int) > 10 then (some (0, 5)) else (if x5.size + 3 ≤ 9223372036854775807 then (if 0 ≤ 3 then (if 3 ≤ ((x5 ++ (⟨#[48, 48, 48]⟩ : ByteArray)).size : Int) then (if x4.size + ((x5 ++ (⟨#[48, 48, 48]⟩ : ByteArray)).extract 0 3).size ≤ 9223372036854775807 then ((strconv_ParseInt.f (x4 ++ ((x5 ++ (⟨#[48, 48, 48]⟩ : ByteArray)).extract 0 3)) 10 64).bind fun bt110 => (if bt110.1 > 1000000000 then (some (0, 5)) else (some (bt110.1, 0)))) else (none)) else (none)) else (none)) else (none)))
end
def lexer_number.f (k : Nat) (a0 : ByteArray) : Option (Int × Int) := (strings_Cut.f a0 (⟨#[46]⟩ : ByteArray)).bind fun bt106 => (if bt106.1.toList = ([] : List UInt8) then (lexer_number.j0 k bt106.1 bt106.2.1 true) else (if (bt106.1.size : Int) > 1 then (if 0 < (bt106.1.size : Int) then (if (bt bt106.1 0) = 48 then (lexer_number.j0 k bt106.1 bt106.2.1 true) else (if bt106.2.2 = true then (if bt106.2.1.toList = ([] : List UInt8) then (lexer_number.j0 k bt106.1 bt106.2.1 true) else (lexer_number.j0 k bt106.1 bt106.2.1 (decide ((bt106.2.1.size : Int) > 3)))) else (lexer_number.j0 k bt106.1 bt106.2.1 false))) else (none)) else (if bt106.2.2 = true then (if bt106.2.1.toList = ([] : List UInt8) then (lexer_number.j0 k bt106.1 bt106.2.1 true) else (lexer_number.j0 k bt106.1 bt106.2.1 (decide ((bt106.2.1.size : Int) > 3)))) else (lexer_number.j0 k bt106.1 bt106.2.1 false))))
theorem lexer_number.mono_l : ∀ k, (∀ y0 y1 y2, LeO (lexer_number.j0 k y0 y1 y2) (lexer_number.j0 (k + 1) y0 y1 y2)) ∧ (∀ y0 y1 y2 y3, LeO (lexer_number.l0 k y0 y1 y2 y3) (lexer_number.l0 (k + 1) y0 y1 y2 y3))
 | 0 => ⟨fun _ _ _ r h => by simp [lexer_number.j0] at h, fun _ _ _ _ r h => by simp [lexer_number.l0] at h⟩
 | k + 1 => by
  obtain ⟨ih0, ih1⟩ := lexer_number.mono_l k
  refine ⟨?_, ?_⟩
  ·
   intro y0 y1 y2
   unfold lexer_number.j0
   repeat' first
   | (with_reducible exact LeO.refl _)
   | exact ih0 _ _ _
   | exact ih1 _ _ _ _
   | exact LeO.none _
   | refine LeO.ite ?_ ?_
   | refine LeO.bind ?_ (fun _ => ?_)
  ·
   intro y0 y1 y2 y3
   unfold lexer_number.l0
   repeat' first
   | (with_reducible exact LeO.refl _)
   | exact ih0 _ _ _
   | exact ih1 _ _ _ _
   | exact LeO.none _
   | refine LeO.ite ?_ ?_
   | refine LeO.bind ?_ (fun _ => ?_)
theorem lexer_number.mono : ∀ a0 k, LeO (lexer_number.f k a0) (lexer_number.f (k + 1) a0) := by
 intro a0 k
 obtain ⟨ih0, ih1⟩ := lexer_number.mono_l k
 unfold lexer_number.f
 repeat' first
   | (with_reducible exact LeO.refl _)
   | exact ih0 _ _ _
   | exact ih1 _ _ _ _
   | exact LeO.none _
   | refine LeO.ite ?_ ?_
   | refine LeO.bind ?_ (fun _ => ?_)
def lexer_number.T7 : Bool × List (List Nat × List Nat) := (true, [([], []), ([], []), ([], []), ([1, 2], [1, 2]), ([], []), ([3, 4], [3, 4]), ([0, 5], [0, 5]), ([6], [6])])
def lexer_number.B7 : List Nat := [0, 0, 0, 6, 0, 30, 63, 127]
theorem lexer_number.tab7 : rtab .any (opsOf Tryd.f106 7) = lexer_number.T7 := by kernel_rfl
theorem lexer_number.bits7 : waitsOk lexer_number.T7.2 lexer_number.B7 = true := by kernel_rfl
theorem lexer_number.calls (k : Nat) (a0 : ByteArray) (r1 : Int) (r2 : Int) (w : World) (h : lexer_number.f k a0 = some (r1, r2)) :
  Calls Tryd.prog 106 #[.string a0] w fun e w' => e = .returned (.tuple #[.int .i64 r1, .int .i64 r2]) ∧ Below w.heap.size w w' := by
 have HB := Aside0.mk (Below.refl w.heap.size w); have H : ((strings_Cut.f a0 (⟨#[46]⟩ : ByteArray)).bind fun bt106 => (if bt106.1.toList = ([] : List UInt8) then (lexer_number.j0 k bt106.1 bt106.2.1 true) else (if (bt106.1.size : Int) > 1 then (if 0 < (bt106.1.size : Int) then (if (bt bt106.1 0) = 48 then (lexer_number.j0 k bt106.1 bt106.2.1 true) else (if bt106.2.2 = true then (if bt106.2.1.toList = ([] : List UInt8) then (lexer_number.j0 k bt106.1 bt106.2.1 true) else (lexer_number.j0 k bt106.1 bt106.2.1 (decide ((bt106.2.1.size : Int) > 3)))) else (lexer_number.j0 k bt106.1 bt106.2.1 false))) else (none)) else (if bt106.2.2 = true then (if bt106.2.1.toList = ([] : List UInt8) then (lexer_number.j0 k bt106.1 bt106.2.1 true) else (lexer_number.j0 k bt106.1 bt106.2.1 (decide ((bt106.2.1.size : Int) > 3)))) else (lexer_number.j0 k bt106.1 bt106.2.1 false))))) = some (r1, r2) := h; clear h; replace H := bn_ H; obtain ⟨⟨t106, t107, t108⟩, A2, H⟩ := H; (try dsimp only at H); have HC3 := Aside0.mk H; clear H
 go_enter Tryd.func106, Tryd.ntmps106
 go_upto_region 2 with (first | ((with_reducible refine gate_callee (f := 123) rfl ?_); refine gk_ (some 12) Tryd.func123 (strings_Cut.calls a0 (⟨#[46]⟩ : ByteArray) t106 t107 t108 _ A2.out) ?_; rintro e w4 ⟨rfl, hb⟩; refine ⟨_, rfl, ?_⟩; have n0_ := Aside0.mk (below_step (bl_ HB.out) hb); clear HB; have HB := n0_; clear n0_; (try clear hb); (try clear hb2); (try clear hk); (try clear hi)))
 (try simp only [Act.put, List.setIfInBounds_toArray, List.set_cons_zero, List.set_cons_succ])
 go_cut [39] (fun v39 wc => ∃ (kq : Nat) (x39_2 : Bool), v39 = .bool x39_2 ∧ Aside0 (lexer_number.j0 kq t106 t107 x39_2 = some (r1, r2)) ∧ Aside0 (kq ≤ k) ∧ Aside0 (Below w.heap.size w wc))
 case first =>
  have H := HC3.out; clear HC3; replace H := sp_ H; obtain ⟨c5, H⟩ | ⟨c5, H⟩ := H
  ·
   have c5b0 := beq_iff_eq.mpr c5; have c5b1 := bne_eq_false_iff_eq.mpr c5; clear c5
   (first | rw [c5b0] | (simp only [i64_w, i32_w]; rw [c5b0]) | skip)
   have H' := Aside0.mk H; clear H
   go_wp2
   go_meet
   case rel => exact ⟨_, (true), sr_, H', ⟨by first | omega | exact Nat.le_refl _⟩, ⟨bl_ HB.out⟩⟩
  have c5b0 := beq_eq_false_iff_ne.mpr c5; have c5b1 := bne_iff_ne.mpr c5
  (first | rw [c5b0] | (simp only [i64_w, i32_w]; rw [c5b0]) | skip)
  replace H := (sp_ H).symm; obtain ⟨c6, H⟩ | ⟨c6, H⟩ := H
  ·
   have c6b0 := decide_eq_false c6; have c6b1 : decide (1 < t106.size) = false := decide_eq_false (by omega); clear c6; replace H := (sb_ H).symm; obtain ⟨rfl, H⟩ | ⟨rfl, H⟩ := H
   ·
    have H' := Aside0.mk H; clear H
    go_wp2
    go_meet
    case rel => exact ⟨_, (false), sr_, H', ⟨by first | omega | exact Nat.le_refl _⟩, ⟨bl_ HB.out⟩⟩
   replace H := sp_ H; obtain ⟨c13, H⟩ | ⟨c13, H⟩ := H
   ·
    have c13b0 := beq_iff_eq.mpr c13; have c13b1 := bne_eq_false_iff_eq.mpr c13; clear c13; have H' := Aside0.mk H; clear H
    go_wp2
    go_meet
    case rel => exact ⟨_, (true), sr_, H', ⟨by first | omega | exact Nat.le_refl _⟩, ⟨bl_ HB.out⟩⟩
   have c13b0 := beq_eq_false_iff_ne.mpr c13; have c13b1 := bne_iff_ne.mpr c13; have H' := Aside0.mk H; clear H
   go_wp2
   go_meet
   case rel => exact ⟨_, (decide ((t107.size : Int) > 3)), sr_, H', ⟨by first | omega | exact Nat.le_refl _⟩, ⟨bl_ HB.out⟩⟩
  have c6b0 := decide_eq_true c6; have c6b1 : decide (1 < t106.size) = true := decide_eq_true (by omega); clear c6; replace H := gp_ H; obtain ⟨c7, H⟩ := H; have c7b0 := decide_eq_true c7; have c7b1 : decide (0 < t106.size) = true := decide_eq_true (by omega); clear c7; replace H := sp_ H; obtain ⟨c9, H⟩ | ⟨c9, H⟩ := H
  ·
   have c9b0 := beq_iff_eq.mpr c9; have c9b1 := bne_eq_false_iff_eq.mpr c9; clear c9; have H' := Aside0.mk H; clear H; have p8 : 0 ≤ (0 : Int) := (by omega); have q8 : 0 < t106.size := (by have : (0 : Int) < (t106.size : Int) := dt_; omega); have hx8 : ∀ h : 0 < t106.size, ((t106[0]'h).toNat : Int) = bt t106 0 := bt_at t106 0; clear p8; have qi8 : (0 < (t106.size : Int)) = True := eq_true (dt_); replace q8 := eq_true q8
   go_wp2
   go_meet
   case rel => exact ⟨_, (true), sr_, H', ⟨by first | omega | exact Nat.le_refl _⟩, ⟨bl_ HB.out⟩⟩
  have c9b0 := beq_eq_false_iff_ne.mpr c9; have c9b1 := bne_iff_ne.mpr c9; replace H := (sb_ H).symm; obtain ⟨rfl, H⟩ | ⟨rfl, H⟩ := H
  ·
   have H' := Aside0.mk H; clear H; have p8 : 0 ≤ (0 : Int) := (by omega); have q8 : 0 < t106.size := (by have : (0 : Int) < (t106.size : Int) := dt_; omega); have hx8 : ∀ h : 0 < t106.size, ((t106[0]'h).toNat : Int) = bt t106 0 := bt_at t106 0; clear p8; have qi8 : (0 < (t106.size : Int)) = True := eq_true (dt_); replace q8 := eq_true q8
   go_wp2
   go_meet
   case rel => exact ⟨_, (false), sr_, H', ⟨by first | omega | exact Nat.le_refl _⟩, ⟨bl_ HB.out⟩⟩
  replace H := sp_ H; obtain ⟨c11, H⟩ | ⟨c11, H⟩ := H
  ·
   have c11b0 := beq_iff_eq.mpr c11; have c11b1 := bne_eq_false_iff_eq.mpr c11; clear c11; have H' := Aside0.mk H; clear H; have p8 : 0 ≤ (0 : Int) := (by omega); have q8 : 0 < t106.size := (by have : (0 : Int) < (t106.size : Int) := dt_; omega); have hx8 : ∀ h : 0 < t106.size, ((t106[0]'h).toNat : Int) = bt t106 0 := bt_at t106 0; clear p8; have qi8 : (0 < (t106.size : Int)) = True := eq_true (dt_); replace q8 := eq_true q8
   go_wp2
   go_meet
   case rel => exact ⟨_, (true), sr_, H', ⟨by first | omega | exact Nat.le_refl _⟩, ⟨bl_ HB.out⟩⟩
  have c11b0 := beq_eq_false_iff_ne.mpr c11; have c11b1 := bne_iff_ne.mpr c11; have H' := Aside0.mk H; clear H; have p8 : 0 ≤ (0 : Int) := (by omega); have q8 : 0 < t106.size := (by have : (0 : Int) < (t106.size : Int) := dt_; omega); have hx8 : ∀ h : 0 < t106.size, ((t106[0]'h).toNat : Int) = bt t106 0 := bt_at t106 0; clear p8; have qi8 : (0 < (t106.size : Int)) = True := eq_true (dt_); replace q8 := eq_true q8
  go_wp2
  go_meet
  case rel => exact ⟨_, (decide ((t107.size : Int) > 3)), sr_, H', ⟨by first | omega | exact Nat.le_refl _⟩, ⟨bl_ HB.out⟩⟩
 case rest =>
  clear HC3; obtain ⟨kq, x39_2, rfl, HA, HJ2, HB⟩ := hcut
  cases kq with
  | zero => exact absurd HA.out (by simp [lexer_number.j0])
  | succ kj2 =>
   have H := HA.out; clear HA; simp only [lexer_number.j0] at H; replace H := sb_ H; obtain ⟨rfl, H⟩ | ⟨rfl, H⟩ := H
   ·
    simp only [Option.some.injEq, Prod.mk.injEq] at H; obtain ⟨rfl, rfl⟩ := H
    go_wp2
    go_ret2
    exact ⟨er_, bl_ HB.out⟩
   have H' := Aside0.mk H; clear H
   go_wp2
   go_loopg [45] kj2 (fun kq v45 w' => ∃ (x45_2 : Int), v45 = .int .i64 x45_2 ∧ Aside0 (lexer_number.l0 kq t106 t107 (wrap64 ((t106.size : Int) + (t107.size : Int))) x45_2 = some (r1, r2)) ∧ Aside0 (kq ≤ kj2) ∧ Aside0 (Below w.heap.size w w'))
   case atStart => exact ⟨(0), sr_, H', ⟨Nat.le_refl _⟩, ⟨bl_ HB.out⟩⟩
   case round =>
    clear H'; (try clear c14); obtain ⟨x45_2, rfl, HA, HK2, HB⟩ := hrel; obtain _ | k2 := gk
    · exact absurd HA.out (by simp [lexer_number.l0])
    have H := HA.out; clear HA; simp only [lexer_number.l0] at H; replace H := (sd_ H).symm; obtain ⟨c15b0, H⟩ | ⟨c15b0, H⟩ := H
    ·
     replace H := sp_ H; obtain ⟨c29, H⟩ | ⟨c29, H⟩ := H
     ·
      have c29b0 := decide_eq_true c29; have c29b1 : decide (10 < t106.size) = true := decide_eq_true (by omega); clear c29; simp only [Option.some.injEq, Prod.mk.injEq] at H; obtain ⟨rfl, rfl⟩ := H
      go_wp2
      go_ret2
      exact ⟨er_, bl_ HB.out⟩
     have c29b0 := decide_eq_false c29; have c29b1 : decide (10 < t106.size) = false := decide_eq_false (by omega); clear c29; replace H := gp_ H; obtain ⟨c30, H⟩ := H; have c30b0 := eq_true c30; have c30b1 := decide_eq_true c30
     try have c30b2 : (9223372036854775807 < t107.size + 3) = False := eq_false (Nat.not_lt.2 c30)
     replace H := gt_ H; obtain ⟨c31b0, c31b1, H⟩ := H; replace H := gp_ H; obtain ⟨c32, H⟩ := H; have c32b0 := eq_true c32; have c32b1 := decide_eq_true c32; replace H := gp_ H; obtain ⟨c33, H⟩ := H; have c33b0 := eq_true c33; have c33b1 := decide_eq_true c33; (try (have c33b3 : (9223372036854775807 < t106.size + ((t107 ++ (⟨#[48, 48, 48]⟩ : ByteArray)).extract 0 3).size) = False := eq_false (Nat.not_lt.2 (by have h_ := c33; simp only [ByteArray.size_append] at h_; exact h_)))); (try (have c33b4 : (t106.size + ((t107 ++ (⟨#[48, 48, 48]⟩ : ByteArray)).extract 0 3).size ≤ 9223372036854775807) = True := eq_true (by have h_ := c33; simp only [ByteArray.size_append] at h_; exact h_)))
     try have c33b2 : (9223372036854775807 < t106.size + ((t107 ++ (⟨#[48, 48, 48]⟩ : ByteArray)).extract 0 3).size) = False := eq_false (Nat.not_lt.2 c33)
     replace H := bn_ H; obtain ⟨⟨t110, t111⟩, A34, H⟩ := H; (try dsimp only at H); replace H := sd_ H; obtain ⟨c35b0, H⟩ | ⟨c35b0, H⟩ := H
     ·
      simp only [Option.some.injEq, Prod.mk.injEq] at H; obtain ⟨rfl, rfl⟩ := H
      go_wp2_with (first | ((with_reducible refine gate_callee (f := 124) rfl ?_); refine gk_ (some 66) Tryd.func124 (strconv_ParseInt.calls (t106 ++ ((t107 ++ (⟨#[48, 48, 48]⟩ : ByteArray)).extract 0 3)) 10 64 t110 t111 _ A34.out) ?_; rintro e w36 ⟨rfl, hb⟩; refine ⟨_, rfl, ?_⟩; refine cut1_ (below_step (bl_ HB.out) hb) ?_; clear hb HB; intro HB))
      go_ret2
      exact ⟨er_, bl_ HB.out⟩
     simp only [Option.some.injEq, Prod.mk.injEq] at H; obtain ⟨rfl, rfl⟩ := H
     go_wp2_with (first | ((with_reducible refine gate_callee (f := 124) rfl ?_); refine gk_ (some 66) Tryd.func124 (strconv_ParseInt.calls (t106 ++ ((t107 ++ (⟨#[48, 48, 48]⟩ : ByteArray)).extract 0 3)) 10 64 t110 t111 _ A34.out) ?_; rintro e w37 ⟨rfl, hb⟩; refine ⟨_, rfl, ?_⟩; refine cut1_ (below_step (bl_ HB.out) hb) ?_; clear hb HB; intro HB))
     go_ret2
     exact ⟨er_, bl_ HB.out⟩
    replace H := bn_ H; obtain ⟨t109, A16, H⟩ := H; (try dsimp only at H); replace H := gp_ H; obtain ⟨c17, H⟩ := H; have c17b0 := eq_true c17; have c17b1 := decide_eq_true c17
    try have c17b2 : (9223372036854775807 < t106.size + t107.size) = False := eq_false (Nat.not_lt.2 c17)
    replace H := gd_ H; obtain ⟨c18b0, H⟩ := H; replace H := gd_ H; obtain ⟨c19b0, H⟩ := H; replace H := gd_ H; obtain ⟨c21b0, H⟩ := H; replace H := gd_ H; obtain ⟨c22b0, H⟩ := H; replace H := (sp_ H).symm; obtain ⟨c24, H⟩ | ⟨c24, H⟩ := H
    ·
     have c24b0 := beq_eq_false_iff_ne.mpr c24; have c24b1 := bne_iff_ne.mpr c24; simp only [Option.some.injEq, Prod.mk.injEq] at H; obtain ⟨rfl, rfl⟩ := H
     try go_wp2
     refine cut1_ (below_drew1 HB.out) ?_; clear HB; intro HB; have p20 : (0 ≤ (x45_2 : Int)) = True := dT_; have q20 : x45_2 < ((t106 ++ t107).size : Int) := dt_; have hx20 := bt_at (t106 ++ t107) x45_2; (try (have qi20 : (x45_2 < (t106.size : Int) + (t107.size : Int)) = True := eq_true (by have h_ := q20; simpa [ByteArray.size_append] using h_))); replace q20 := eq_true q20; refine start_ (n := 8) (S := fun w' => True) (ds := []) (bm_ 8 0) (by kernel_rfl) rfl (by kernel_rfl) trivial (fun hHeld => ?_); refine with_tabW lexer_number.tab7 lexer_number.bits7 (fun HT_ HW_ => ?_); generalize wr.drew = w27 at HB hHeld ⊢; refine pt_ HT_.out (i := 1) (N := some 49) (bm_ 8 2) ?_; refine pt_ HT_.out (i := 2) (N := some 50) (bm_ 8 6) ?_; refine pt_ HT_.out (i := 3) (N := some 51) (bm_ 8 14) ?_; refine pt_ HT_.out (i := 4) (N := some 52) (bm_ 8 30) ?_; refine take_ (i := 5) (N := some 53) (v := ?_) (a' := ?_) (bm_ 8 62) rfl rfl (take_ofW HT_.out HW_.out (by kernel_rfl)) (fun _ _ _ h => h) (Or.inl ⟨by rfl, ?_⟩) hHeld ?_ ?_; rotate_left
     ·
      intro w' _; go_simp
      with_reducible rfl
     rotate_left
     ·
      simp only [Act.put, List.setIfInBounds_toArray, List.set_cons_zero, List.set_cons_succ, i64_w, i32_w]
      rfl
     refine on_ HT_.out (i := 0) (N := some 48) (bm_ 8 63) (fun K hK => ?_); refine goes_ Tryd.func65 (by kernel_rfl) rfl #[] (by rfl) rfl rfl ga_ ?_
     with_reducible refine (lexer_kinds.calls  t109 _ A16.out).mono ?_
     rintro e w28 ⟨rfl, hb⟩; refine ⟨_, rfl, ?_⟩; refine cut1_ (below_step (bl_ HB.out) hb) ?_; clear hb HB; intro HB; have p23 : 0 ≤ ((bt (t106 ++ t107) x45_2) : Int) := dt_; have q23 : ((bt (t106 ++ t107) x45_2) : Int) < 256 := dt_; have hx23 := lexer_kinds.at_run A16.out (bt (t106 ++ t107) x45_2) p23 q23; replace p23 := eq_true p23; replace q23 := eq_true q23; refine hK.out _ _ trivial (fun hHeld => ?_); clear hK K; refine nm_ ?_; refine take_ (i := 6) (N := some 54) (v := ?_) (a' := ?_) (bm_ 8 127) rfl rfl (take_ofW HT_.out HW_.out (by kernel_rfl)) (fun _ _ _ h => h) (Or.inl ⟨by rfl, ?_⟩) hHeld ?_ ?_; rotate_left
     ·
      intro w' _; go_simp
      with_reducible rfl
     rotate_left
     ·
      simp only [Act.put, List.setIfInBounds_toArray, List.set_cons_zero, List.set_cons_succ, i64_w, i32_w]
      rfl
     refine pt_ HT_.out (i := 7) (N := some 55) (bm_ 8 255) ?_; refine done_ (done_of HT_.out (by kernel_rfl)) ?_
     try go_wp2
     go_ret2
     exact ⟨er_, bl_ HB.out⟩
    have c24b0 := beq_iff_eq.mpr c24; have c24b1 := bne_eq_false_iff_eq.mpr c24; clear c24; have H' := Aside0.mk H; clear H
    try go_wp2
    refine cut1_ (below_drew1 HB.out) ?_; clear HB; intro HB; have p20 : (0 ≤ (x45_2 : Int)) = True := dT_; have q20 : x45_2 < ((t106 ++ t107).size : Int) := dt_; have hx20 := bt_at (t106 ++ t107) x45_2; (try (have qi20 : (x45_2 < (t106.size : Int) + (t107.size : Int)) = True := eq_true (by have h_ := q20; simpa [ByteArray.size_append] using h_))); replace q20 := eq_true q20; refine start_ (n := 8) (S := fun w' => True) (ds := []) (bm_ 8 0) (by kernel_rfl) rfl (by kernel_rfl) trivial (fun hHeld => ?_); refine with_tabW lexer_number.tab7 lexer_number.bits7 (fun HT_ HW_ => ?_); generalize wr.drew = w25 at HB hHeld ⊢; refine pt_ HT_.out (i := 1) (N := some 49) (bm_ 8 2) ?_; refine pt_ HT_.out (i := 2) (N := some 50) (bm_ 8 6) ?_; refine pt_ HT_.out (i := 3) (N := some 51) (bm_ 8 14) ?_; refine pt_ HT_.out (i := 4) (N := some 52) (bm_ 8 30) ?_; refine take_ (i := 5) (N := some 53) (v := ?_) (a' := ?_) (bm_ 8 62) rfl rfl (take_ofW HT_.out HW_.out (by kernel_rfl)) (fun _ _ _ h => h) (Or.inl ⟨by rfl, ?_⟩) hHeld ?_ ?_; rotate_left
    ·
     intro w' _; go_simp
     with_reducible rfl
    rotate_left
    ·
     simp only [Act.put, List.setIfInBounds_toArray, List.set_cons_zero, List.set_cons_succ, i64_w, i32_w]
     rfl
    refine on_ HT_.out (i := 0) (N := some 48) (bm_ 8 63) (fun K hK => ?_); refine goes_ Tryd.func65 (by kernel_rfl) rfl #[] (by rfl) rfl rfl ga_ ?_
    with_reducible refine (lexer_kinds.calls  t109 _ A16.out).mono ?_
    rintro e w26 ⟨rfl, hb⟩; refine ⟨_, rfl, ?_⟩; refine cut1_ (below_step (bl_ HB.out) hb) ?_; clear hb HB; intro HB; have p23 : 0 ≤ ((bt (t106 ++ t107) x45_2) : Int) := dt_; have q23 : ((bt (t106 ++ t107) x45_2) : Int) < 256 := dt_; have hx23 := lexer_kinds.at_run A16.out (bt (t106 ++ t107) x45_2) p23 q23; replace p23 := eq_true p23; replace q23 := eq_true q23; refine hK.out _ _ trivial (fun hHeld => ?_); clear hK K; refine nm_ ?_; refine take_ (i := 6) (N := some 54) (v := ?_) (a' := ?_) (bm_ 8 127) rfl rfl (take_ofW HT_.out HW_.out (by kernel_rfl)) (fun _ _ _ h => h) (Or.inl ⟨by rfl, ?_⟩) hHeld ?_ ?_; rotate_left
    ·
     intro w' _; go_simp
     with_reducible rfl
    rotate_left
    ·
     simp only [Act.put, List.setIfInBounds_toArray, List.set_cons_zero, List.set_cons_succ, i64_w, i32_w]
     rfl
    refine pt_ HT_.out (i := 7) (N := some 55) (bm_ 8 255) ?_; refine done_ (done_of HT_.out (by kernel_rfl)) ?_
    try go_wp2
    go_roundg k2
    case measure => have := HJ2.out; have := HK2.out; omega
    case rel => exact ⟨(wrap64 (x45_2 + 1)), sr_, H', ⟨by have := HJ2.out; have := HK2.out; omega⟩, ⟨bl_ HB.out⟩⟩
def lexer_run.f (k : Nat) (a0 : ByteArray) : Option (Int × ByteArray × Int × Int × Int) := (lexer_number.f k a0).bind fun bt113 => (if bt113.2 = 2 then ((lexer_word.f k a0).bind fun t115 => (some (1, a0, 0, 0, t115))) else (some (2, (⟨#[]⟩ : ByteArray), bt113.1, 0, bt113.2)))
theorem lexer_run.mono : ∀ a0 k, LeO (lexer_run.f k a0) (lexer_run.f (k + 1) a0) := by
 intro a0 k
 unfold lexer_run.f
 repeat' first
   | (with_reducible exact LeO.refl _)
   | exact lexer_number.mono _ _
   | exact lexer_word.mono _ _
   | exact LeO.none _
   | refine LeO.ite ?_ ?_
   | refine LeO.bind ?_ (fun _ => ?_)
theorem lexer_run.calls (k : Nat) (a0 : ByteArray) (r1 : Int) (r2 : ByteArray) (r3 : Int) (r4 : Int) (r5 : Int) (w : World) (h : lexer_run.f k a0 = some (r1, r2, r3, r4, r5)) :
  Calls Tryd.prog 83 #[.string a0] w fun e w' => e = .returned (.tuple #[.agg #[.int .i64 r1, .string r2, .int .i64 r3, .int .i64 r4], .int .i64 r5]) ∧ Below w.heap.size w w' := by
 have hu46 := Tryd.underlying46; have HB := Aside0.mk (Below.refl w.heap.size w); have H : ((lexer_number.f k a0).bind fun bt113 => (if bt113.2 = 2 then ((lexer_word.f k a0).bind fun t115 => (some (1, a0, 0, 0, t115))) else (some (2, (⟨#[]⟩ : ByteArray), bt113.1, 0, bt113.2)))) = some (r1, r2, r3, r4, r5) := h; clear h; replace H := bn_ H; obtain ⟨⟨t113, t114⟩, A2, H⟩ := H; (try dsimp only at H); replace H := (sp_ H).symm; obtain ⟨c3, H⟩ | ⟨c3, H⟩ := H
 ·
  have c3b0 := beq_eq_false_iff_ne.mpr c3; have c3b1 := bne_iff_ne.mpr c3; simp only [Option.some.injEq, Prod.mk.injEq] at H; obtain ⟨rfl, rfl, rfl, rfl, rfl⟩ := H
  go_enter Tryd.func83, Tryd.ntmps83
  go_wp2_with (first | ((with_reducible refine gate_dst (N := 2) rfl ?_); refine bx_ (N := 2) (cs := #[.int .i64 0, .string (⟨#[]⟩ : ByteArray), .int .i64 0, .int .i64 0]) (t := 46) ?_; intro gb112 hg w9 hbox hb; refine cut4_ (below_step (bl_ HB.out) hb) (hbox) (bz_ (w := w) hg (bl_ HB.out)) (bz_ (w := w) hg (bl_ HB.out)) ?_; clear HB; intro HB BK112 GW112 GE112; clear hb hbox hg) | ((with_reducible refine gate_callee (f := 106) rfl ?_); refine gk_ (some 8) Tryd.func106 (lexer_number.calls k a0 t113 t114 _ A2.out) ?_; rintro e w10 ⟨rfl, hb⟩; refine ⟨_, rfl, ?_⟩; refine cut2_ (bb_ BK112.out hb) (below_step (bl1_ HB.out GE112.out) hb) ?_; clear hb BK112 HB; intro BK112 HB; obtain ⟨hcz11_0, hcz11_1, hcz11_2, hcz11_3, hfz11_0, hfz11_1, hfz11_2, hfz11_3⟩ := cq4_ BK112.out))
  refine bodyPost_ret (results_ct rfl _ _ gb112 46 #[.int .i64 2, .string (⟨#[]⟩ : ByteArray), .int .i64 t113, .int .i64 0] (0, 0) _ rfl (by exact put4_ (bk_ BK112.out)) Tryd.underlying46 rfl (by kernel_rfl)) rfl ?_; exact ⟨er_, bl1_ HB.out GE112.out⟩
 have c3b0 := beq_iff_eq.mpr c3; have c3b1 := bne_eq_false_iff_eq.mpr c3; clear c3; replace H := bn_ H; obtain ⟨t115, A4, H⟩ := H; (try dsimp only at H); simp only [Option.some.injEq, Prod.mk.injEq] at H; obtain ⟨rfl, rfl, rfl, rfl, rfl⟩ := H
 go_enter Tryd.func83, Tryd.ntmps83
 go_wp2_with (first | ((with_reducible refine gate_dst (N := 2) rfl ?_); refine bx_ (N := 2) (cs := #[.int .i64 0, .string (⟨#[]⟩ : ByteArray), .int .i64 0, .int .i64 0]) (t := 46) ?_; intro gb112 hg w5 hbox hb; refine cut4_ (below_step (bl_ HB.out) hb) (hbox) (bz_ (w := w) hg (bl_ HB.out)) (bz_ (w := w) hg (bl_ HB.out)) ?_; clear HB; intro HB BK112 GW112 GE112; clear hb hbox hg) | ((with_reducible refine gate_callee (f := 106) rfl ?_); refine gk_ (some 8) Tryd.func106 (lexer_number.calls k a0 t113 t114 _ A2.out) ?_; rintro e w6 ⟨rfl, hb⟩; refine ⟨_, rfl, ?_⟩; refine cut2_ (bb_ BK112.out hb) (below_step (bl1_ HB.out GE112.out) hb) ?_; clear hb BK112 HB; intro BK112 HB) | ((with_reducible refine gate_callee (f := 91) rfl ?_); refine gk_ (some 19) Tryd.func91 (lexer_word.calls k a0 t115 _ A4.out) ?_; rintro e w7 ⟨rfl, hb⟩; refine ⟨_, rfl, ?_⟩; refine cut2_ (bb_ BK112.out hb) (below_step (bl1_ HB.out GE112.out) hb) ?_; clear hb BK112 HB; intro BK112 HB; obtain ⟨hcz8_0, hcz8_1, hcz8_2, hcz8_3, hfz8_0, hfz8_1, hfz8_2, hfz8_3⟩ := cq4_ BK112.out))
 refine bodyPost_ret (results_ct rfl _ _ gb112 46 #[.int .i64 1, .string a0, .int .i64 0, .int .i64 0] (0, 0) _ rfl (by exact put4_ (bk_ BK112.out)) Tryd.underlying46 rfl (by kernel_rfl)) rfl ?_; exact ⟨er_, bl1_ HB.out GE112.out⟩
mutual
def lexer_title.j0 : Nat → ByteArray → Bool → Option (Int)
 | 0, _, _ => none
 | k + 1, x0, x18 => if x18 = true then (some 2) else (lexer_title.l0 k x0 (x0.size : Int) 0)
def lexer_title.l0 : Nat → ByteArray → Int → Int → Option (Int)
 | 0, _, _, _ => none
 | k + 1, x0, x20, x21 => if x21 < x20 then (if 0 ≤ x21 then (if x21 < (x0.size : Int) then (if (bt x0 x21) < 32 then (some 2) else (if (bt x0 x21) > 126 then (some 2) else (if (bt x0 x21) = 34 then (some 2) else (lexer_title.l0 k x0 x20 (wrap64 (x21 + 1)))))) else (none)) else (none)) else (if (x0.size : Int) > 40 then (some 6) else (some 0))
end
def lexer_title.f (k : Nat) (a0 : ByteArray) : Option (Int) := if a0.toList = ([] : List UInt8) then (lexer_title.j0 k a0 true) else (if 0 < (a0.size : Int) then (if (bt a0 0) = 32 then (lexer_title.j0 k a0 true) else (if 0 ≤ (wrap64 ((a0.size : Int) - 1)) then (if (wrap64 ((a0.size : Int) - 1)) < (a0.size : Int) then (lexer_title.j0 k a0 ((bt a0 (wrap64 ((a0.size : Int) - 1))) == 32)) else (none)) else (none))) else (none))
theorem lexer_title.mono_l : ∀ k, (∀ y0 y1, LeO (lexer_title.j0 k y0 y1) (lexer_title.j0 (k + 1) y0 y1)) ∧ (∀ y0 y1 y2, LeO (lexer_title.l0 k y0 y1 y2) (lexer_title.l0 (k + 1) y0 y1 y2))
 | 0 => ⟨fun _ _ r h => by simp [lexer_title.j0] at h, fun _ _ _ r h => by simp [lexer_title.l0] at h⟩
 | k + 1 => by
  obtain ⟨ih0, ih1⟩ := lexer_title.mono_l k
  refine ⟨?_, ?_⟩
  ·
   intro y0 y1
   unfold lexer_title.j0
   repeat' first
   | (with_reducible exact LeO.refl _)
   | exact ih0 _ _
   | exact ih1 _ _ _
   | exact LeO.none _
   | refine LeO.ite ?_ ?_
   | refine LeO.bind ?_ (fun _ => ?_)
  ·
   intro y0 y1 y2
   unfold lexer_title.l0
   repeat' first
   | (with_reducible exact LeO.refl _)
   | exact ih0 _ _
   | exact ih1 _ _ _
   | exact LeO.none _
   | refine LeO.ite ?_ ?_
   | refine LeO.bind ?_ (fun _ => ?_)
theorem lexer_title.mono : ∀ a0 k, LeO (lexer_title.f k a0) (lexer_title.f (k + 1) a0) := by
 intro a0 k
 obtain ⟨ih0, ih1⟩ := lexer_title.mono_l k
 unfold lexer_title.f
 repeat' first
   | (with_reducible exact LeO.refl _)
   | exact ih0 _ _
   | exact ih1 _ _ _
   | exact LeO.none _
   | refine LeO.ite ?_ ?_
   | refine LeO.bind ?_ (fun _ => ?_)
theorem lexer_title.calls (k : Nat) (a0 : ByteArray) (r : Int) (w : World) (h : lexer_title.f k a0 = some r) :
  Calls Tryd.prog 64 #[.string a0] w fun e w' => e = .returned (.int .i64 r) ∧ Drawn0 w w' := by
 have H : (if a0.toList = ([] : List UInt8) then (lexer_title.j0 k a0 true) else (if 0 < (a0.size : Int) then (if (bt a0 0) = 32 then (lexer_title.j0 k a0 true) else (if 0 ≤ (wrap64 ((a0.size : Int) - 1)) then (if (wrap64 ((a0.size : Int) - 1)) < (a0.size : Int) then (lexer_title.j0 k a0 ((bt a0 (wrap64 ((a0.size : Int) - 1))) == 32)) else (none)) else (none))) else (none))) = some r := h; clear h; have HC2 := Aside0.mk H; clear H
 go_enter Tryd.func64, Tryd.ntmps64
 go_upto_region 1 with (fail)
 go_cut [18] (fun v18 wc => ∃ (kq : Nat) (x18_1 : Bool), v18 = .bool x18_1 ∧ Aside0 (lexer_title.j0 kq a0 x18_1 = some r) ∧ Aside0 (kq ≤ k) ∧ Drawn0 w wc)
 case first =>
  have H := HC2.out; clear HC2; replace H := sp_ H; obtain ⟨c3, H⟩ | ⟨c3, H⟩ := H
  ·
   have c3b0 := beq_iff_eq.mpr c3; have c3b1 := bne_eq_false_iff_eq.mpr c3; clear c3
   (first | rw [c3b0] | (simp only [i64_w, i32_w]; rw [c3b0]) | skip)
   have H' := Aside0.mk H; clear H
   go_wp2
   go_meet
   case rel => exact ⟨_, (true), sr_, H', ⟨by first | omega | exact Nat.le_refl _⟩, by repeat (first | exact Drawn0.refl _ | apply Drawn0.step)⟩
  have c3b0 := beq_eq_false_iff_ne.mpr c3; have c3b1 := bne_iff_ne.mpr c3
  (first | rw [c3b0] | (simp only [i64_w, i32_w]; rw [c3b0]) | skip)
  replace H := gp_ H; obtain ⟨c4, H⟩ := H; have c4b0 := decide_eq_true c4; have c4b1 : decide (0 < a0.size) = true := decide_eq_true (by omega); clear c4; replace H := sp_ H; obtain ⟨c6, H⟩ | ⟨c6, H⟩ := H
  ·
   have c6b0 := beq_iff_eq.mpr c6; have c6b1 := bne_eq_false_iff_eq.mpr c6; clear c6; have H' := Aside0.mk H; clear H; have p5 : 0 ≤ (0 : Int) := (by omega); have q5 : 0 < a0.size := (by have : (0 : Int) < (a0.size : Int) := dt_; omega); have hx5 : ∀ h : 0 < a0.size, ((a0[0]'h).toNat : Int) = bt a0 0 := bt_at a0 0; clear p5; have qi5 : (0 < (a0.size : Int)) = True := eq_true (dt_); replace q5 := eq_true q5
   go_wp2
   go_meet
   case rel => exact ⟨_, (true), sr_, H', ⟨by first | omega | exact Nat.le_refl _⟩, by repeat (first | exact Drawn0.refl _ | apply Drawn0.step)⟩
  have c6b0 := beq_eq_false_iff_ne.mpr c6; have c6b1 := bne_iff_ne.mpr c6; obtain ⟨ji7, hji7⟩ : ∃ j_ : Int, (wrap64 ((a0.size : Int) - 1)) = j_ := ⟨_, rfl⟩; replace H : (if 0 ≤ (ji7) then (if (ji7) < (a0.size : Int) then (lexer_title.j0 k a0 ((bt a0 (ji7)) == 32)) else (none)) else (none)) = some r := by first | (rw [hji7] at H; exact H) | (simp only [hji7] at H ⊢; exact H)
  have hji7w : (IntKind.i64.wrap ((a0.size : Int) - 1)) = ji7 := (i64_w _).trans hji7; replace H := gd_ H; obtain ⟨c8b0, H⟩ := H; replace H := gd_ H; obtain ⟨c9b0, H⟩ := H; have H' := Aside0.mk H; clear H; have p5 : 0 ≤ (0 : Int) := (by omega); have q5 : 0 < a0.size := (by have : (0 : Int) < (a0.size : Int) := dt_; omega); have hx5 : ∀ h : 0 < a0.size, ((a0[0]'h).toNat : Int) = bt a0 0 := bt_at a0 0; clear p5; have qi5 : (0 < (a0.size : Int)) = True := eq_true (dt_); replace q5 := eq_true q5; have p10 : (0 ≤ ((ji7) : Int)) = True := dT_; have q10 : ((ji7) < (a0.size : Int)) = True := dT_; have hx10 := bt_at a0 (ji7)
  go_wp2
  go_meet
  case rel => exact ⟨_, (((bt a0 (ji7)) == 32)), (by first | rfl | (simp; done) | (simp only [← hji7] <;> (first | rfl | simp)) | (simp [*]; done)), H', ⟨by first | omega | exact Nat.le_refl _⟩, by repeat (first | exact Drawn0.refl _ | apply Drawn0.step)⟩
 case rest =>
  clear HC2; obtain ⟨kq, x18_1, rfl, HA, HJ1, ⟨mc1, rfl⟩⟩ := hcut
  cases kq with
  | zero => exact absurd HA.out (by simp [lexer_title.j0])
  | succ kj1 =>
   have H := HA.out; clear HA; simp only [lexer_title.j0] at H; replace H := sb_ H; obtain ⟨rfl, H⟩ | ⟨rfl, H⟩ := H
   ·
    obtain rfl := Option.some.inj H
    go_wp2
    go_ret
    exact ⟨by first | rfl | (simp; done) | (simp [*]; done) | (simp <;> rfl), by repeat (first | exact Drawn0.refl _ | apply Drawn0.step)⟩
   have H' := Aside0.mk H; clear H
   go_wp2
   go_loopg [21] kj1 (fun kq v21 w' => ∃ (x21_2 : Int), v21 = .int .i64 x21_2 ∧ Aside0 (lexer_title.l0 kq a0 (a0.size : Int) x21_2 = some r) ∧ Aside0 (kq ≤ kj1) ∧ Drawn0 w w')
   case atStart => exact ⟨(0), sr_, H', ⟨Nat.le_refl _⟩, by repeat (first | exact Drawn0.refl _ | apply Drawn0.step)⟩
   case round =>
    clear H'; (try clear c11); obtain ⟨x21_2, rfl, HA, HK2, ⟨m2, rfl⟩⟩ := hrel; obtain _ | k2 := gk
    · exact absurd HA.out (by simp [lexer_title.l0])
    have H := HA.out; clear HA; simp only [lexer_title.l0] at H; replace H := (sd_ H).symm; obtain ⟨c12b0, H⟩ | ⟨c12b0, H⟩ := H
    ·
     replace H := sp_ H; obtain ⟨c21, H⟩ | ⟨c21, H⟩ := H
     ·
      have c21b0 := decide_eq_true c21; have c21b1 : decide (40 < a0.size) = true := decide_eq_true (by omega); clear c21; obtain rfl := Option.some.inj H
      go_wp2
      go_ret
      exact ⟨by first | rfl | (simp; done) | (simp [*]; done) | (simp <;> rfl), by repeat (first | exact Drawn0.refl _ | apply Drawn0.step)⟩
     have c21b0 := decide_eq_false c21; have c21b1 : decide (40 < a0.size) = false := decide_eq_false (by omega); clear c21; obtain rfl := Option.some.inj H
     go_wp2
     go_ret
     exact ⟨by first | rfl | (simp; done) | (simp [*]; done) | (simp <;> rfl), by repeat (first | exact Drawn0.refl _ | apply Drawn0.step)⟩
    replace H := gd_ H; obtain ⟨c13b0, H⟩ := H; replace H := gd_ H; obtain ⟨c14b0, H⟩ := H; replace H := sd_ H; obtain ⟨c16b0, H⟩ | ⟨c16b0, H⟩ := H
    ·
     obtain rfl := Option.some.inj H; have p15 : (0 ≤ (x21_2 : Int)) = True := dT_; have q15 : (x21_2 < (a0.size : Int)) = True := dT_; have hx15 := bt_at a0 x21_2
     go_wp2
     go_ret
     exact ⟨by first | rfl | (simp; done) | (simp [*]; done) | (simp <;> rfl), by repeat (first | exact Drawn0.refl _ | apply Drawn0.step)⟩
    replace H := sd_ H; obtain ⟨c18b0, H⟩ | ⟨c18b0, H⟩ := H
    ·
     obtain rfl := Option.some.inj H; have p15 : (0 ≤ (x21_2 : Int)) = True := dT_; have q15 : (x21_2 < (a0.size : Int)) = True := dT_; have hx15 := bt_at a0 x21_2; have p17 : (0 ≤ (x21_2 : Int)) = True := dT_; have q17 : (x21_2 < (a0.size : Int)) = True := dT_; have hx17 := bt_at a0 x21_2
     go_wp2
     go_ret
     exact ⟨by first | rfl | (simp; done) | (simp [*]; done) | (simp <;> rfl), by repeat (first | exact Drawn0.refl _ | apply Drawn0.step)⟩
    replace H := sp_ H; obtain ⟨c20, H⟩ | ⟨c20, H⟩ := H
    ·
     have c20b0 := beq_iff_eq.mpr c20; have c20b1 := bne_eq_false_iff_eq.mpr c20; clear c20; obtain rfl := Option.some.inj H; have p15 : (0 ≤ (x21_2 : Int)) = True := dT_; have q15 : (x21_2 < (a0.size : Int)) = True := dT_; have hx15 := bt_at a0 x21_2; have p17 : (0 ≤ (x21_2 : Int)) = True := dT_; have q17 : (x21_2 < (a0.size : Int)) = True := dT_; have hx17 := bt_at a0 x21_2; have p19 : (0 ≤ (x21_2 : Int)) = True := dT_; have q19 : (x21_2 < (a0.size : Int)) = True := dT_; have hx19 := bt_at a0 x21_2
     go_wp2
     go_ret
     exact ⟨by first | rfl | (simp; done) | (simp [*]; done) | (simp <;> rfl), by repeat (first | exact Drawn0.refl _ | apply Drawn0.step)⟩
    have c20b0 := beq_eq_false_iff_ne.mpr c20; have c20b1 := bne_iff_ne.mpr c20; have H' := Aside0.mk H; clear H; have p15 : (0 ≤ (x21_2 : Int)) = True := dT_; have q15 : (x21_2 < (a0.size : Int)) = True := dT_; have hx15 := bt_at a0 x21_2; have p17 : (0 ≤ (x21_2 : Int)) = True := dT_; have q17 : (x21_2 < (a0.size : Int)) = True := dT_; have hx17 := bt_at a0 x21_2; have p19 : (0 ≤ (x21_2 : Int)) = True := dT_; have q19 : (x21_2 < (a0.size : Int)) = True := dT_; have hx19 := bt_at a0 x21_2
    go_wp2
    go_roundg k2
    case measure => have := HJ1.out; have := HK2.out; omega
    case rel => exact ⟨(wrap64 (x21_2 + 1)), sr_, H', ⟨by have := HJ1.out; have := HK2.out; omega⟩, by repeat (first | exact Drawn0.refl _ | apply Drawn0.step)⟩
def lexer_text.l0 : Nat → ByteArray → Int → Int → Option (Int × ByteArray × Int × Int × Int × Int)
 | 0, _, _, _ => none
 | k + 1, x0, x1, x7 => if x7 < (x0.size : Int) then (if 0 ≤ x7 then (if (bt x0 x7) = 34 then (if x7 = (x0.size : Int) then (some (0, (⟨#[]⟩ : ByteArray), 0, 0, 0, 2)) else (if (bt x0 x7) = 10 then (some (0, (⟨#[]⟩ : ByteArray), 0, 0, 0, 2)) else (if 0 ≤ (wrap64 (x1 + 1)) then (if (wrap64 (x1 + 1)) ≤ x7 then (if x7 ≤ (x0.size : Int) then ((lexer_title.f k (x0.extract ((wrap64 (x1 + 1)) : Int).toNat (x7 : Int).toNat)).bind fun t117 => (some (3, x0.extract ((wrap64 (x1 + 1)) : Int).toNat (x7 : Int).toNat, 0, 0, wrap64 (x7 + 1), t117))) else (none)) else (none)) else (none)))) else (if (bt x0 x7) = 10 then (if x7 = (x0.size : Int) then (some (0, (⟨#[]⟩ : ByteArray), 0, 0, 0, 2)) else (some (0, (⟨#[]⟩ : ByteArray), 0, 0, 0, 2))) else (lexer_text.l0 k x0 x1 (wrap64 (x7 + 1))))) else (none)) else (if x7 = (x0.size : Int) then (some (0, (⟨#[]⟩ : ByteArray), 0, 0, 0, 2)) else (if 0 ≤ x7 then (none) else (none)))
def lexer_text.f (k : Nat) (a0 : ByteArray) (a1 : Int) : Option (Int × ByteArray × Int × Int × Int × Int) := lexer_text.l0 k a0 a1 (wrap64 (a1 + 1))
theorem lexer_text.mono_l : ∀ k, (∀ y0 y1 y2, LeO (lexer_text.l0 k y0 y1 y2) (lexer_text.l0 (k + 1) y0 y1 y2))
 | 0 => fun _ _ _ r h => by simp [lexer_text.l0] at h
 | k + 1 => by
  have ih0 := lexer_text.mono_l k
  ·
   intro y0 y1 y2
   unfold lexer_text.l0
   repeat' first
   | (with_reducible exact LeO.refl _)
   | exact ih0 _ _ _
   | exact lexer_title.mono _ _
   | exact LeO.none _
   | refine LeO.ite ?_ ?_
   | refine LeO.bind ?_ (fun _ => ?_)
theorem lexer_text.mono : ∀ a0 a1 k, LeO (lexer_text.f k a0 a1) (lexer_text.f (k + 1) a0 a1) := by
 intro a0 a1 k
 have ih0 := lexer_text.mono_l k
 unfold lexer_text.f
 repeat' first
   | (with_reducible exact LeO.refl _)
   | exact ih0 _ _ _
   | exact lexer_title.mono _ _
   | exact LeO.none _
   | refine LeO.ite ?_ ?_
   | refine LeO.bind ?_ (fun _ => ?_)
theorem lexer_text.calls (k : Nat) (a0 : ByteArray) (a1 : Int) (r1 : Int) (r2 : ByteArray) (r3 : Int) (r4 : Int) (r5 : Int) (r6 : Int) (w : World) (h : lexer_text.f k a0 a1 = some (r1, r2, r3, r4, r5, r6)) :
  Calls Tryd.prog 84 #[.string a0, .int .i64 a1] w fun e w' => e = .returned (.tuple #[.agg #[.int .i64 r1, .string r2, .int .i64 r3, .int .i64 r4], .int .i64 r5, .int .i64 r6]) ∧ Below w.heap.size w w' := by
 have hu46 := Tryd.underlying46; have HB := Aside0.mk (Below.refl w.heap.size w); have H : (lexer_text.l0 k a0 a1 (wrap64 (a1 + 1))) = some (r1, r2, r3, r4, r5, r6) := h; clear h; have H' := Aside0.mk H; clear H
 go_enter Tryd.func84, Tryd.ntmps84
 go_wp2_with (first | ((with_reducible refine gate_dst (N := 4) rfl ?_); refine bx_ (N := 4) (cs := #[.int .i64 0, .string (⟨#[]⟩ : ByteArray), .int .i64 0, .int .i64 0]) (t := 46) ?_; intro gb116 hg w3 hbox hb; refine cut4_ (below_step (bl_ HB.out) hb) (hbox) (bz_ (w := w) hg (bl_ HB.out)) (bz_ (w := w) hg (bl_ HB.out)) ?_; clear HB; intro HB BK116 GW116 GE116; clear hb hbox hg))
 go_loopg [7] k (fun kq v7 w' => ∃ (x7_1 : Int), v7 = .int .i64 x7_1 ∧ Aside0 (lexer_text.l0 kq a0 a1 x7_1 = some (r1, r2, r3, r4, r5, r6)) ∧ Aside0 (kq ≤ k) ∧ Aside0 (w'.heap[gb116]? = some (.cells #[.int .i64 0, .string (⟨#[]⟩ : ByteArray), .int .i64 0, .int .i64 0] 46 (0, 0))) ∧ Aside0 (Below w.heap.size w w'))
 case atStart => exact ⟨(wrap64 (a1 + 1)), sr_, H', ⟨Nat.le_refl _⟩, ⟨bk_ BK116.out⟩, ⟨bl1_ HB.out GE116.out⟩⟩
 case round =>
  clear H'; obtain ⟨x7_1, rfl, HA, HK1, BK116, HB⟩ := hrel; obtain _ | k1 := gk
  · exact absurd HA.out (by simp [lexer_text.l0])
  have H := HA.out; clear HA; simp only [lexer_text.l0] at H; replace H := (sd_ H).symm; obtain ⟨c4b0, H⟩ | ⟨c4b0, H⟩ := H
  ·
   replace H := (sp_ H).symm; obtain ⟨c25, H⟩ | ⟨c25, H⟩ := H
   ·
    have c25b0 := beq_eq_false_iff_ne.mpr c25; have c25b1 := bne_iff_ne.mpr c25; replace H := gp_ H; obtain ⟨c27, H⟩ := H; exact absurd H (by simp)
   have c25b0 := beq_iff_eq.mpr c25; have c25b1 := bne_eq_false_iff_eq.mpr c25; clear c25; simp only [Option.some.injEq, Prod.mk.injEq] at H; obtain ⟨rfl, rfl, rfl, rfl, rfl, rfl⟩ := H; obtain ⟨hcz26_0, hcz26_1, hcz26_2, hcz26_3, hfz26_0, hfz26_1, hfz26_2, hfz26_3⟩ := cq4_ BK116.out
   go_wp2
   refine bodyPost_ret (results_ctt rfl _ _ gb116 46 #[.int .i64 0, .string (⟨#[]⟩ : ByteArray), .int .i64 0, .int .i64 0] (0, 0) _ rfl (by exact put4_ (bk_ BK116.out)) Tryd.underlying46 rfl (by kernel_rfl)) rfl ?_; exact ⟨er_, bl1_ HB.out GE116.out⟩
  replace H := gd_ H; obtain ⟨c5b0, H⟩ := H; replace H := (sp_ H).symm; obtain ⟨c7, H⟩ | ⟨c7, H⟩ := H
  ·
   have c7b0 := beq_eq_false_iff_ne.mpr c7; have c7b1 := bne_iff_ne.mpr c7; replace H := (sp_ H).symm; obtain ⟨c20, H⟩ | ⟨c20, H⟩ := H
   ·
    have c20b0 := beq_eq_false_iff_ne.mpr c20; have c20b1 := bne_iff_ne.mpr c20; have H' := Aside0.mk H; clear H; have p6 : (0 ≤ (x7_1 : Int)) = True := dT_; have q6 : (x7_1 < (a0.size : Int)) = True := dT_; have hx6 := bt_at a0 x7_1; have p19 : (0 ≤ (x7_1 : Int)) = True := dT_; have q19 : (x7_1 < (a0.size : Int)) = True := dT_; have hx19 := bt_at a0 x7_1
    go_wp2
    go_roundg k1
    case measure => have := HK1.out; omega
    case rel => exact ⟨(wrap64 (x7_1 + 1)), sr_, H', ⟨om_ HK1.out⟩, ⟨bk_ BK116.out⟩, ⟨bl1_ HB.out GE116.out⟩⟩
   have c20b0 := beq_iff_eq.mpr c20; have c20b1 := bne_eq_false_iff_eq.mpr c20; clear c20; replace H := sp_ H; obtain ⟨c21, H⟩ | ⟨c21, H⟩ := H
   ·
    have c21b0 := beq_iff_eq.mpr c21; have c21b1 := bne_eq_false_iff_eq.mpr c21; clear c21; simp only [Option.some.injEq, Prod.mk.injEq] at H; obtain ⟨rfl, rfl, rfl, rfl, rfl, rfl⟩ := H; have p6 : (0 ≤ (x7_1 : Int)) = True := dT_; have q6 : (x7_1 < (a0.size : Int)) = True := dT_; have hx6 := bt_at a0 x7_1; have p19 : (0 ≤ (x7_1 : Int)) = True := dT_; have q19 : (x7_1 < (a0.size : Int)) = True := dT_; have hx19 := bt_at a0 x7_1; obtain ⟨hcz22_0, hcz22_1, hcz22_2, hcz22_3, hfz22_0, hfz22_1, hfz22_2, hfz22_3⟩ := cq4_ BK116.out
    go_wp2
    refine bodyPost_ret (results_ctt rfl _ _ gb116 46 #[.int .i64 0, .string (⟨#[]⟩ : ByteArray), .int .i64 0, .int .i64 0] (0, 0) _ rfl (by exact put4_ (bk_ BK116.out)) Tryd.underlying46 rfl (by kernel_rfl)) rfl ?_; exact ⟨er_, bl1_ HB.out GE116.out⟩
   have c21b0 := beq_eq_false_iff_ne.mpr c21; have c21b1 := bne_iff_ne.mpr c21; simp only [Option.some.injEq, Prod.mk.injEq] at H; obtain ⟨rfl, rfl, rfl, rfl, rfl, rfl⟩ := H; have p6 : (0 ≤ (x7_1 : Int)) = True := dT_; have q6 : (x7_1 < (a0.size : Int)) = True := dT_; have hx6 := bt_at a0 x7_1; have p19 : (0 ≤ (x7_1 : Int)) = True := dT_; have q19 : (x7_1 < (a0.size : Int)) = True := dT_; have hx19 := bt_at a0 x7_1; have p23 : (0 ≤ (x7_1 : Int)) = True := dT_; have q23 : (x7_1 < (a0.size : Int)) = True := dT_; have hx23 := bt_at a0 x7_1; obtain ⟨hcz24_0, hcz24_1, hcz24_2, hcz24_3, hfz24_0, hfz24_1, hfz24_2, hfz24_3⟩ := cq4_ BK116.out
   go_wp2
   refine bodyPost_ret (results_ctt rfl _ _ gb116 46 #[.int .i64 0, .string (⟨#[]⟩ : ByteArray), .int .i64 0, .int .i64 0] (0, 0) _ rfl (by exact put4_ (bk_ BK116.out)) Tryd.underlying46 rfl (by kernel_rfl)) rfl ?_; exact ⟨er_, bl1_ HB.out GE116.out⟩
  have c7b0 := beq_iff_eq.mpr c7; have c7b1 := bne_eq_false_iff_eq.mpr c7; clear c7; replace H := sp_ H; obtain ⟨c8, H⟩ | ⟨c8, H⟩ := H
  ·
   have c8b0 := beq_iff_eq.mpr c8; have c8b1 := bne_eq_false_iff_eq.mpr c8; clear c8; simp only [Option.some.injEq, Prod.mk.injEq] at H; obtain ⟨rfl, rfl, rfl, rfl, rfl, rfl⟩ := H; have p6 : (0 ≤ (x7_1 : Int)) = True := dT_; have q6 : (x7_1 < (a0.size : Int)) = True := dT_; have hx6 := bt_at a0 x7_1; obtain ⟨hcz9_0, hcz9_1, hcz9_2, hcz9_3, hfz9_0, hfz9_1, hfz9_2, hfz9_3⟩ := cq4_ BK116.out
   go_wp2
   refine bodyPost_ret (results_ctt rfl _ _ gb116 46 #[.int .i64 0, .string (⟨#[]⟩ : ByteArray), .int .i64 0, .int .i64 0] (0, 0) _ rfl (by exact put4_ (bk_ BK116.out)) Tryd.underlying46 rfl (by kernel_rfl)) rfl ?_; exact ⟨er_, bl1_ HB.out GE116.out⟩
  have c8b0 := beq_eq_false_iff_ne.mpr c8; have c8b1 := bne_iff_ne.mpr c8; replace H := sp_ H; obtain ⟨c11, H⟩ | ⟨c11, H⟩ := H
  ·
   have c11b0 := beq_iff_eq.mpr c11; have c11b1 := bne_eq_false_iff_eq.mpr c11; clear c11; simp only [Option.some.injEq, Prod.mk.injEq] at H; obtain ⟨rfl, rfl, rfl, rfl, rfl, rfl⟩ := H; have p6 : (0 ≤ (x7_1 : Int)) = True := dT_; have q6 : (x7_1 < (a0.size : Int)) = True := dT_; have hx6 := bt_at a0 x7_1; have p10 : (0 ≤ (x7_1 : Int)) = True := dT_; have q10 : (x7_1 < (a0.size : Int)) = True := dT_; have hx10 := bt_at a0 x7_1; obtain ⟨hcz12_0, hcz12_1, hcz12_2, hcz12_3, hfz12_0, hfz12_1, hfz12_2, hfz12_3⟩ := cq4_ BK116.out
   go_wp2
   refine bodyPost_ret (results_ctt rfl _ _ gb116 46 #[.int .i64 0, .string (⟨#[]⟩ : ByteArray), .int .i64 0, .int .i64 0] (0, 0) _ rfl (by exact put4_ (bk_ BK116.out)) Tryd.underlying46 rfl (by kernel_rfl)) rfl ?_; exact ⟨er_, bl1_ HB.out GE116.out⟩
  have c11b0 := beq_eq_false_iff_ne.mpr c11; have c11b1 := bne_iff_ne.mpr c11; obtain ⟨ji13, hji13⟩ : ∃ j_ : Int, (wrap64 (a1 + 1)) = j_ := ⟨_, rfl⟩; replace H : (if 0 ≤ (ji13) then (if (ji13) ≤ x7_1 then (if x7_1 ≤ (a0.size : Int) then ((lexer_title.f k1 (a0.extract ((ji13) : Int).toNat (x7_1 : Int).toNat)).bind fun t117 => (some (3, a0.extract ((ji13) : Int).toNat (x7_1 : Int).toNat, 0, 0, wrap64 (x7_1 + 1), t117))) else (none)) else (none)) else (none)) = some (r1, r2, r3, r4, r5, r6) := by first | (rw [hji13] at H; exact H) | (simp only [hji13] at H ⊢; exact H)
  have hji13w : (IntKind.i64.wrap (a1 + 1)) = ji13 := (i64_w _).trans hji13; replace H := gt_ H; obtain ⟨c14b0, c14b1, H⟩ := H; replace H := gt_ H; obtain ⟨c15b0, c15b1, H⟩ := H; replace H := gt_ H; obtain ⟨c16b0, c16b1, H⟩ := H; replace H := bn_ H; obtain ⟨t117, A17, H⟩ := H; (try dsimp only at H); simp only [Option.some.injEq, Prod.mk.injEq] at H; obtain ⟨rfl, rfl, rfl, rfl, rfl, rfl⟩ := H; have p6 : (0 ≤ (x7_1 : Int)) = True := dT_; have q6 : (x7_1 < (a0.size : Int)) = True := dT_; have hx6 := bt_at a0 x7_1; have p10 : (0 ≤ (x7_1 : Int)) = True := dT_; have q10 : (x7_1 < (a0.size : Int)) = True := dT_; have hx10 := bt_at a0 x7_1
  go_wp2_with (first | ((with_reducible refine gate_callee (f := 64) rfl ?_); refine goesL_ (some 50) rfl rfl Tryd.func64 (by kernel_rfl) rfl #[.string (a0.extract ((ji13) : Int).toNat (x7_1 : Int).toNat)] rfl (by (try simp only [List.map_toArray, List.map_cons, List.map_nil]); first | done | (simp only [hji13]; rfl) | rfl | (simp only [List.length_drop, List.length_take]; rfl)) ?_; (with_reducible refine (lexer_title.calls k1 (a0.extract ((ji13) : Int).toNat (x7_1 : Int).toNat) t117 _ A17.out).mono ?_); rintro e w' ⟨rfl, ⟨nd, rfl⟩⟩; refine ⟨_, rfl, ?_⟩; (try (rw [drewN_self wr]; generalize hq_ : World.drewN wr _ = wr; have n0_ := Aside0.mk (bw_ hq_.symm (bk_ BK116.out)); have n1_ := Aside0.mk (bW_ hq_.symm (bl1_ HB.out GE116.out)); clear BK116 HB hq_; have BK116 := n0_; have HB := n1_; clear n0_ n1_)); obtain ⟨hcz18_0, hcz18_1, hcz18_2, hcz18_3, hfz18_0, hfz18_1, hfz18_2, hfz18_3⟩ := cq4_ BK116.out))
  refine bodyPost_ret (results_ctt rfl _ _ gb116 46 #[.int .i64 3, .string (a0.extract ((ji13) : Int).toNat (x7_1 : Int).toNat), .int .i64 0, .int .i64 0] (0, 0) _ rfl (by exact put4_ (bk_ BK116.out)) Tryd.underlying46 rfl (by kernel_rfl)) rfl ?_; exact ⟨by first | rfl | (simp [errW_none, errW_some] <;> rfl) | (simp only [← hji13]; first | rfl | (simp [errW_none, errW_some] <;> rfl)) | (simp [*, errW_none, errW_some] <;> rfl), bl1_ HB.out GE116.out⟩
mutual
def lexer_next.j2 : Nat → Int → Int → Int → Int → ByteArray → Int → Int → Option (Int × ByteArray × Int × Int × Int × Int × Int)
 | 0, _, _, _, _, _, _, _ => none
 | k + 1, x1, x8, x9, x122000, x122001, x122002, x122003 => if x9 = 0 then (some (x122000, x122001, x122002, x1, x8, 0, 0)) else (some (0, (⟨#[]⟩ : ByteArray), 0, 0, 0, x9, x1))
def lexer_next.j1 : Nat → ByteArray → Int → Int → Option (Int × ByteArray × Int × Int × Int × Int × Int)
 | 0, _, _, _ => none
 | k + 1, x0, x1, x8 => if 0 ≤ x1 then (if x1 ≤ x8 then (if x8 ≤ (x0.size : Int) then ((lexer_run.f k (x0.extract (x1 : Int).toNat (x8 : Int).toNat)).bind fun bt124 => (lexer_next.j2 k x1 x8 bt124.2.2.2.2 bt124.1 bt124.2.1 bt124.2.2.1 bt124.2.2.2.1)) else (none)) else (none)) else (none)
def lexer_next.l0 : Nat → ByteArray → Int → Int → Option (Int × ByteArray × Int × Int × Int × Int × Int)
 | 0, _, _, _ => none
 | k + 1, x0, x1, x8 => if x8 < (x0.size : Int) then (if 0 ≤ x8 then ((lexer_isRun.f (bt x0 x8)).bind fun t123 => (if t123 = true then (lexer_next.l0 k x0 x1 (wrap64 (x8 + 1))) else (lexer_next.j1 k x0 x1 x8))) else (none)) else (lexer_next.j1 k x0 x1 x8)
end
def lexer_next.f (k : Nat) (a0 : ByteArray) (a1 : Int) : Option (Int × ByteArray × Int × Int × Int × Int × Int) := (lexer_skip.f k a0 a1).bind fun t120 => (if t120 = (a0.size : Int) then (some (5, (⟨#[]⟩ : ByteArray), 0, t120, t120, 0, 0)) else (if 0 ≤ t120 then (if t120 < (a0.size : Int) then ((lexer_isRun.f (bt a0 t120)).bind fun t122 => (if t122 = true then (lexer_next.l0 k a0 t120 (wrap64 (t120 + 1))) else (if (bt a0 t120) = 34 then ((lexer_text.f k a0 t120).bind fun bt129 => (lexer_next.j2 k t120 bt129.2.2.2.2.1 bt129.2.2.2.2.2 bt129.1 bt129.2.1 bt129.2.2.1 bt129.2.2.2.1)) else ((lexer_kinds.f).bind fun t135 => (if 0 ≤ (bt a0 t120) then (if (bt a0 t120) < 256 then (if (lexer_kinds.at_ (bt a0 t120)) = 5 then (if t120 ≤ (wrap64 (t120 + 1)) then (if (wrap64 (t120 + 1)) ≤ (a0.size : Int) then (lexer_next.j2 k t120 (wrap64 (t120 + 1)) 0 4 (a0.extract (t120 : Int).toNat ((wrap64 (t120 + 1)) : Int).toNat) 0 0) else (none)) else (none)) else (lexer_next.j2 k t120 (wrap64 (t120 + 1)) 2 0 (⟨#[]⟩ : ByteArray) 0 0)) else (none)) else (none)))))) else (none)) else (none)))
theorem lexer_next.mono_l : ∀ k, (∀ y0 y1 y2 y3 y4 y5 y6, LeO (lexer_next.j2 k y0 y1 y2 y3 y4 y5 y6) (lexer_next.j2 (k + 1) y0 y1 y2 y3 y4 y5 y6)) ∧ (∀ y0 y1 y2, LeO (lexer_next.j1 k y0 y1 y2) (lexer_next.j1 (k + 1) y0 y1 y2)) ∧ (∀ y0 y1 y2, LeO (lexer_next.l0 k y0 y1 y2) (lexer_next.l0 (k + 1) y0 y1 y2))
 | 0 => ⟨fun _ _ _ _ _ _ _ r h => by simp [lexer_next.j2] at h, fun _ _ _ r h => by simp [lexer_next.j1] at h, fun _ _ _ r h => by simp [lexer_next.l0] at h⟩
 | k + 1 => by
  obtain ⟨ih0, ih1, ih2⟩ := lexer_next.mono_l k
  refine ⟨?_, ?_, ?_⟩
  ·
   intro y0 y1 y2 y3 y4 y5 y6
   unfold lexer_next.j2
   repeat' first
   | (with_reducible exact LeO.refl _)
   | exact ih0 _ _ _ _ _ _ _
   | exact ih1 _ _ _
   | exact ih2 _ _ _
   | exact lexer_run.mono _ _
   | exact lexer_skip.mono _ _ _
   | exact lexer_text.mono _ _ _
   | exact LeO.none _
   | refine LeO.ite ?_ ?_
   | refine LeO.bind ?_ (fun _ => ?_)
  ·
   intro y0 y1 y2
   unfold lexer_next.j1
   repeat' first
   | (with_reducible exact LeO.refl _)
   | exact ih0 _ _ _ _ _ _ _
   | exact ih1 _ _ _
   | exact ih2 _ _ _
   | exact lexer_run.mono _ _
   | exact lexer_skip.mono _ _ _
   | exact lexer_text.mono _ _ _
   | exact LeO.none _
   | refine LeO.ite ?_ ?_
   | refine LeO.bind ?_ (fun _ => ?_)
  ·
   intro y0 y1 y2
   unfold lexer_next.l0
   repeat' first
   | (with_reducible exact LeO.refl _)
   | exact ih0 _ _ _ _ _ _ _
   | exact ih1 _ _ _
   | exact ih2 _ _ _
   | exact lexer_run.mono _ _
   | exact lexer_skip.mono _ _ _
   | exact lexer_text.mono _ _ _
   | exact LeO.none _
   | refine LeO.ite ?_ ?_
   | refine LeO.bind ?_ (fun _ => ?_)
theorem lexer_next.mono : ∀ a0 a1 k, LeO (lexer_next.f k a0 a1) (lexer_next.f (k + 1) a0 a1) := by
 intro a0 a1 k
 obtain ⟨ih0, ih1, ih2⟩ := lexer_next.mono_l k
 unfold lexer_next.f
 repeat' first
   | (with_reducible exact LeO.refl _)
   | exact ih0 _ _ _ _ _ _ _
   | exact ih1 _ _ _
   | exact ih2 _ _ _
   | exact lexer_run.mono _ _
   | exact lexer_skip.mono _ _ _
   | exact lexer_text.mono _ _ _
   | exact LeO.none _
   | refine LeO.ite ?_ ?_
   | refine LeO.bind ?_ (fun _ => ?_)
theorem lexer_next.calls (k : Nat) (a0 : ByteArray) (a1 : Int) (r1 : Int) (r2 : ByteArray) (r3 : Int) (r4 : Int) (r5 : Int) (r6 : Int) (r7 : Int) (w : World) (h : lexer_next.f k a0 a1 = some (r1, r2, r3, r4, r5, r6, r7)) :
  Calls Tryd.prog 55 #[.string a0, .int .i64 a1] w fun e w' => e = .returned (.tuple #[.agg #[.int .i64 r1, .string r2, .int .i64 r3, .int .i64 r4], .int .i64 r5, .agg #[.int .i64 r6, .int .i64 r7]]) ∧ Below w.heap.size w w' := by
 have hu46 := Tryd.underlying46; have hu26 := Tryd.underlying26; have HB := Aside0.mk (Below.refl w.heap.size w); have H : ((lexer_skip.f k a0 a1).bind fun t120 => (if t120 = (a0.size : Int) then (some (5, (⟨#[]⟩ : ByteArray), 0, t120, t120, 0, 0)) else (if 0 ≤ t120 then (if t120 < (a0.size : Int) then ((lexer_isRun.f (bt a0 t120)).bind fun t122 => (if t122 = true then (lexer_next.l0 k a0 t120 (wrap64 (t120 + 1))) else (if (bt a0 t120) = 34 then ((lexer_text.f k a0 t120).bind fun bt129 => (lexer_next.j2 k t120 bt129.2.2.2.2.1 bt129.2.2.2.2.2 bt129.1 bt129.2.1 bt129.2.2.1 bt129.2.2.2.1)) else ((lexer_kinds.f).bind fun t135 => (if 0 ≤ (bt a0 t120) then (if (bt a0 t120) < 256 then (if (lexer_kinds.at_ (bt a0 t120)) = 5 then (if t120 ≤ (wrap64 (t120 + 1)) then (if (wrap64 (t120 + 1)) ≤ (a0.size : Int) then (lexer_next.j2 k t120 (wrap64 (t120 + 1)) 0 4 (a0.extract (t120 : Int).toNat ((wrap64 (t120 + 1)) : Int).toNat) 0 0) else (none)) else (none)) else (lexer_next.j2 k t120 (wrap64 (t120 + 1)) 2 0 (⟨#[]⟩ : ByteArray) 0 0)) else (none)) else (none)))))) else (none)) else (none)))) = some (r1, r2, r3, r4, r5, r6, r7) := h; clear h; replace H := bn_ H; obtain ⟨t120, A3, H⟩ := H; (try dsimp only at H); replace H := sp_ H; obtain ⟨c4, H⟩ | ⟨c4, H⟩ := H
 ·
  have c4b0 := beq_iff_eq.mpr c4; have c4b1 := bne_eq_false_iff_eq.mpr c4; clear c4; simp only [Option.some.injEq, Prod.mk.injEq] at H; obtain ⟨rfl, rfl, rfl, rfl, rfl, rfl, rfl⟩ := H
  go_enter Tryd.func55, Tryd.ntmps55
  go_wp2_with (first | ((with_reducible refine gate_dst (N := 4) rfl ?_); refine bx_ (N := 4) (cs := #[.int .i64 0, .string (⟨#[]⟩ : ByteArray), .int .i64 0, .int .i64 0]) (t := 46) ?_; intro gb118 hg w5 hbox hb; refine cut4_ (below_step (bl_ HB.out) hb) (hbox) (bz_ (w := w) hg (bl_ HB.out)) (bz_ (w := w) hg (bl_ HB.out)) ?_; clear HB; intro HB BK118 GW118 GE118; clear hb hbox hg) | ((with_reducible refine gate_dst (N := 6) rfl ?_); refine bx_ (N := 6) (cs := #[.int .i64 0, .int .i64 0]) (t := 26) ?_; intro gb119 hg w6 hbox hb; refine cut7_ (bb_ BK118.out hb) (below_step (bl1_ HB.out GE118.out) hb) (hbox) (bz_ (w := w) hg (bl1_ HB.out GE118.out)) (bz_ (w := w) hg (bl1_ HB.out GE118.out)) (nl_ hg BK118.out) (ng_ hg BK118.out) ?_; clear BK118 HB; intro BK118 HB BK119 GW119 GE119 NB118_119 NB119_118; clear hb hbox hg) | ((with_reducible refine gate_callee (f := 81) rfl ?_); refine gk_ (some 13) Tryd.func81 (lexer_skip.calls k a0 a1 t120 _ A3.out) ?_; rintro e w7 ⟨rfl, hb⟩; refine ⟨_, rfl, ?_⟩; refine cut3_ (bb_ BK118.out hb) (bb_ BK119.out hb) (below_step (bl2_ HB.out GE118.out GE119.out) hb) ?_; clear hb BK118 BK119 HB; intro BK118 BK119 HB; have hnb8 := NB118_119.out; have hnc8 := NB119_118.out; obtain ⟨hcz9_0, hcz9_1, hcz9_2, hcz9_3, hfz9_0, hfz9_1, hfz9_2, hfz9_3⟩ := cq4_ BK118.out; obtain ⟨hcz10_0, hcz10_1, hfz10_0, hfz10_1⟩ := cq2_ BK119.out))
  refine bodyPost_ret (results_list (rs := [.cell 4 46, .tmp 5, .cell 6 26]) rfl (by simp) (.cell gb118 46 #[.int .i64 5, .string (⟨#[]⟩ : ByteArray), .int .i64 0, .int .i64 t120] (0, 0) _ rfl (by exact far2_ (put4_ (bk_ BK118.out)) NB118_119.out) Tryd.underlying46 rfl (by kernel_rfl) (.tmp (.cell gb119 26 #[.int .i64 0, .int .i64 0] (0, 0) _ rfl (by refine blk_put (cs := #[.int .i64 0, .int .i64 0]) ?_ 1 _ rfl; refine blk_put (cs := #[.int .i64 0, .int .i64 0]) ?_ 0 _ rfl; exact far4_ (bk_ BK119.out) NB119_118.out) Tryd.underlying26 rfl (by kernel_rfl) .nil)))) rfl ?_; exact ⟨er_, bl2_ HB.out GE118.out GE119.out⟩
 have c4b0 := beq_eq_false_iff_ne.mpr c4; have c4b1 := bne_iff_ne.mpr c4; replace H := gd_ H; obtain ⟨c11b0, H⟩ := H; replace H := gd_ H; obtain ⟨c12b0, H⟩ := H; have HC14 := Aside0.mk H; clear H
 go_enter Tryd.func55, Tryd.ntmps55
 go_upto_block 0 with (first | ((with_reducible refine gate_dst (N := 4) rfl ?_); refine bx_ (N := 4) (cs := #[.int .i64 0, .string (⟨#[]⟩ : ByteArray), .int .i64 0, .int .i64 0]) (t := 46) ?_; intro gb118 hg w15 hbox hb; have n0_ := Aside0.mk (below_step (bl_ HB.out) hb); have n1_ := Aside0.mk (hbox); have n2_ := Aside0.mk (bz_ (w := w) hg (bl_ HB.out)); have n3_ := Aside0.mk (bz_ (w := w) hg (bl_ HB.out)); clear HB; have HB := n0_; have BK118 := n1_; have GW118 := n2_; have GE118 := n3_; clear n0_ n1_ n2_ n3_; clear hb hbox hg) | ((with_reducible refine gate_dst (N := 6) rfl ?_); refine bx_ (N := 6) (cs := #[.int .i64 0, .int .i64 0]) (t := 26) ?_; intro gb119 hg w16 hbox hb; have n0_ := Aside0.mk (bb_ BK118.out hb); have n1_ := Aside0.mk (below_step (bl1_ HB.out GE118.out) hb); have n2_ := Aside0.mk (hbox); have n3_ := Aside0.mk (bz_ (w := w) hg (bl1_ HB.out GE118.out)); have n4_ := Aside0.mk (bz_ (w := w) hg (bl1_ HB.out GE118.out)); have n5_ := Aside0.mk (nl_ hg BK118.out); have n6_ := Aside0.mk (ng_ hg BK118.out); clear BK118; clear HB; have BK118 := n0_; have HB := n1_; have BK119 := n2_; have GW119 := n3_; have GE119 := n4_; have NB118_119 := n5_; have NB119_118 := n6_; clear n0_ n1_ n2_ n3_ n4_ n5_ n6_; clear hb hbox hg) | ((with_reducible refine gate_callee (f := 81) rfl ?_); refine gk_ (some 13) Tryd.func81 (lexer_skip.calls k a0 a1 t120 _ A3.out) ?_; rintro e w17 ⟨rfl, hb⟩; refine ⟨_, rfl, ?_⟩; have n0_ := Aside0.mk (bb_ BK118.out hb); have n1_ := Aside0.mk (bb_ BK119.out hb); have n2_ := Aside0.mk (below_step (bl2_ HB.out GE118.out GE119.out) hb); clear BK118; clear BK119; clear HB; have BK118 := n0_; have BK119 := n1_; have HB := n2_; clear n0_ n1_ n2_; (try clear hb); (try clear hb2); (try clear hk); (try clear hi)) | ((with_reducible refine gate_dst (N := 7) rfl ?_); refine bx_ (N := 7) (cs := #[.int .i64 0, .string (⟨#[]⟩ : ByteArray), .int .i64 0, .int .i64 0]) (t := 46) ?_; intro gb121 hg w18 hbox hb; have n0_ := Aside0.mk (bb_ BK118.out hb); have n1_ := Aside0.mk (bb_ BK119.out hb); have n2_ := Aside0.mk (below_step (bl2_ HB.out GE118.out GE119.out) hb); have n3_ := Aside0.mk (hbox); have n4_ := Aside0.mk (bz_ (w := w) hg (bl2_ HB.out GE118.out GE119.out)); have n5_ := Aside0.mk (bz_ (w := w) hg (bl2_ HB.out GE118.out GE119.out)); have n6_ := Aside0.mk (nl_ hg BK118.out); have n7_ := Aside0.mk (ng_ hg BK118.out); have n8_ := Aside0.mk (nl_ hg BK119.out); have n9_ := Aside0.mk (ng_ hg BK119.out); clear BK118; clear BK119; clear HB; have BK118 := n0_; have BK119 := n1_; have HB := n2_; have BK121 := n3_; have GW121 := n4_; have GE121 := n5_; have NB118_121 := n6_; have NB121_118 := n7_; have NB119_121 := n8_; have NB121_119 := n9_; clear n0_ n1_ n2_ n3_ n4_ n5_ n6_ n7_ n8_ n9_; clear hb hbox hg; have p13 : 0 ≤ (t120 : Int) := dt_; have q13 : t120 < (a0.size : Int) := dt_; have hx13 := bt_at a0 t120; replace p13 := eq_true p13; replace q13 := eq_true q13))
 (try simp only [Act.put, List.setIfInBounds_toArray, List.set_cons_zero, List.set_cons_succ])
 go_cut [8, 9] (fun v8 v9 wc => ∃ (kq : Nat) (x8_13 : Int) (x9_13 : Int) (x122000_13 : Int) (x122001_13 : ByteArray) (x122002_13 : Int) (x122003_13 : Int), v8 = .int .i64 x8_13 ∧ v9 = .int .i64 x9_13 ∧ Aside0 (lexer_next.j2 kq t120 x8_13 x9_13 x122000_13 x122001_13 x122002_13 x122003_13 = some (r1, r2, r3, r4, r5, r6, r7)) ∧ Aside0 (kq ≤ k) ∧ Aside0 (wc.heap[gb118]? = some (.cells #[.int .i64 0, .string (⟨#[]⟩ : ByteArray), .int .i64 0, .int .i64 0] 46 (0, 0))) ∧ Aside0 (wc.heap[gb119]? = some (.cells #[.int .i64 0, .int .i64 0] 26 (0, 0))) ∧ Aside0 (wc.heap[gb121]? = some (.cells #[.int .i64 x122000_13, .string x122001_13, .int .i64 x122002_13, .int .i64 x122003_13] 46 (0, 0))) ∧ Aside0 (Below w.heap.size w wc))
 case first =>
  have H := HC14.out; clear HC14; replace H := bn_ H; obtain ⟨t122, A19, H⟩ := H; (try dsimp only at H); replace H := (sb_ H).symm; obtain ⟨rfl, H⟩ | ⟨rfl, H⟩ := H
  ·
   replace H := sp_ H; obtain ⟨c38, H⟩ | ⟨c38, H⟩ := H
   ·
    have c38b0 := beq_iff_eq.mpr c38; have c38b1 := bne_eq_false_iff_eq.mpr c38; clear c38; replace H := bn_ H; obtain ⟨⟨t129, t130, t131, t132, t133, t134⟩, A39, H⟩ := H; (try dsimp only at H); have H' := Aside0.mk H; clear H
    go_wp2_with (first | ((with_reducible refine gate_callee (f := 82) rfl ?_); refine gk_ (some 29) Tryd.func82 (lexer_isRun.calls (bt a0 t120) false _ A19.out) ?_; rintro e w40 ⟨rfl, hb⟩; refine ⟨_, rfl, ?_⟩; refine cut4_ (bb_ BK118.out hb) (bb_ BK119.out hb) (bb_ BK121.out hb) (below_step (bl3_ HB.out GE118.out GE119.out GE121.out) hb) ?_; clear hb BK118 BK119 BK121 HB; intro BK118 BK119 BK121 HB) | ((with_reducible refine gate_callee (f := 84) rfl ?_); refine gk_ (some 56) Tryd.func84 (lexer_text.calls k a0 t120 t129 t130 t131 t132 t133 t134 _ A39.out) ?_; rintro e w41 ⟨rfl, hb⟩; refine ⟨_, rfl, ?_⟩; refine cut4_ (bb_ BK118.out hb) (bb_ BK119.out hb) (bb_ BK121.out hb) (below_step (bl3_ HB.out GE118.out GE119.out GE121.out) hb) ?_; clear hb BK118 BK119 BK121 HB; intro BK118 BK119 BK121 HB; have hnb42 := NB121_118.out; have hnc42 := NB118_121.out; have hnb43 := NB121_119.out; have hnc43 := NB119_121.out; obtain ⟨hcz44_0, hcz44_1, hcz44_2, hcz44_3, hfz44_0, hfz44_1, hfz44_2, hfz44_3⟩ := cq4_ BK121.out))
    go_meet
    case rel => exact ⟨_, (t133), (t134), (t129), (t130), (t131), (t132), sr_, sr_, H', ⟨by first | omega | exact Nat.le_refl _⟩, ⟨far4_ (bk_ BK118.out) NB118_121.out⟩, ⟨far4_ (bk_ BK119.out) NB119_121.out⟩, ⟨put4_ (bk_ BK121.out)⟩, ⟨bl3_ HB.out GE118.out GE119.out GE121.out⟩⟩
   have c38b0 := beq_eq_false_iff_ne.mpr c38; have c38b1 := bne_iff_ne.mpr c38; replace H := bn_ H; obtain ⟨t135, A45, H⟩ := H; (try dsimp only at H); replace H := gd_ H; obtain ⟨c46b0, H⟩ := H; replace H := gd_ H; obtain ⟨c47b0, H⟩ := H; replace H := (sp_ H).symm; obtain ⟨c49, H⟩ | ⟨c49, H⟩ := H
   ·
    have c49b0 := beq_eq_false_iff_ne.mpr c49; have c49b1 := bne_iff_ne.mpr c49; have H' := Aside0.mk H; clear H
    go_wp2_with (first | ((with_reducible refine gate_callee (f := 82) rfl ?_); refine gk_ (some 29) Tryd.func82 (lexer_isRun.calls (bt a0 t120) false _ A19.out) ?_; rintro e w58 ⟨rfl, hb⟩; refine ⟨_, rfl, ?_⟩; refine cut4_ (bb_ BK118.out hb) (bb_ BK119.out hb) (bb_ BK121.out hb) (below_step (bl3_ HB.out GE118.out GE119.out GE121.out) hb) ?_; clear hb BK118 BK119 BK121 HB; intro BK118 BK119 BK121 HB) | ((with_reducible refine gate_callee (f := 65) rfl ?_); refine gk_ (some 61) Tryd.func65 (lexer_kinds.calls  t135 _ A45.out) ?_; rintro e w59 ⟨rfl, hb⟩; refine ⟨_, rfl, ?_⟩; refine cut4_ (bb_ BK118.out hb) (bb_ BK119.out hb) (bb_ BK121.out hb) (below_step (bl3_ HB.out GE118.out GE119.out GE121.out) hb) ?_; clear hb BK118 BK119 BK121 HB; intro BK118 BK119 BK121 HB; have p48 : 0 ≤ ((bt a0 t120) : Int) := dt_; have q48 : ((bt a0 t120) : Int) < 256 := dt_; have hx48 := lexer_kinds.at_run A45.out (bt a0 t120) p48 q48; replace p48 := eq_true p48; replace q48 := eq_true q48))
    go_meet
    case rel => exact ⟨_, (wrap64 (t120 + 1)), (2), (0), ((⟨#[]⟩ : ByteArray)), (0), (0), sr_, sr_, H', ⟨by first | omega | exact Nat.le_refl _⟩, ⟨bk_ BK118.out⟩, ⟨bk_ BK119.out⟩, ⟨bk_ BK121.out⟩, ⟨bl3_ HB.out GE118.out GE119.out GE121.out⟩⟩
   have c49b0 := beq_iff_eq.mpr c49; have c49b1 := bne_eq_false_iff_eq.mpr c49; clear c49; have c50b0 := eq_true (dt_ : 0 ≤ t120); replace H := gp_ H; obtain ⟨c51, H⟩ := H; have c51b0 := eq_true c51; have c51b1 := decide_eq_true c51; replace H := gp_ H; obtain ⟨c52, H⟩ := H; have c52b0 := eq_true c52; have c52b1 := decide_eq_true c52; have H' := Aside0.mk H; clear H
   go_wp2_with (first | ((with_reducible refine gate_callee (f := 82) rfl ?_); refine gk_ (some 29) Tryd.func82 (lexer_isRun.calls (bt a0 t120) false _ A19.out) ?_; rintro e w53 ⟨rfl, hb⟩; refine ⟨_, rfl, ?_⟩; refine cut4_ (bb_ BK118.out hb) (bb_ BK119.out hb) (bb_ BK121.out hb) (below_step (bl3_ HB.out GE118.out GE119.out GE121.out) hb) ?_; clear hb BK118 BK119 BK121 HB; intro BK118 BK119 BK121 HB) | ((with_reducible refine gate_callee (f := 65) rfl ?_); refine gk_ (some 61) Tryd.func65 (lexer_kinds.calls  t135 _ A45.out) ?_; rintro e w54 ⟨rfl, hb⟩; refine ⟨_, rfl, ?_⟩; refine cut4_ (bb_ BK118.out hb) (bb_ BK119.out hb) (bb_ BK121.out hb) (below_step (bl3_ HB.out GE118.out GE119.out GE121.out) hb) ?_; clear hb BK118 BK119 BK121 HB; intro BK118 BK119 BK121 HB; have p48 : 0 ≤ ((bt a0 t120) : Int) := dt_; have q48 : ((bt a0 t120) : Int) < 256 := dt_; have hx48 := lexer_kinds.at_run A45.out (bt a0 t120) p48 q48; replace p48 := eq_true p48; replace q48 := eq_true q48; have hnb55 := NB121_118.out; have hnc55 := NB118_121.out; have hnb56 := NB121_119.out; have hnc56 := NB119_121.out; obtain ⟨hcz57_0, hcz57_1, hcz57_2, hcz57_3, hfz57_0, hfz57_1, hfz57_2, hfz57_3⟩ := cq4_ BK121.out))
   go_meet
   case rel => exact ⟨_, (wrap64 (t120 + 1)), (0), (4), (a0.extract (t120 : Int).toNat ((wrap64 (t120 + 1)) : Int).toNat), (0), (0), sr_, sr_, H', ⟨by first | omega | exact Nat.le_refl _⟩, ⟨far4_ (bk_ BK118.out) NB118_121.out⟩, ⟨far4_ (bk_ BK119.out) NB119_121.out⟩, ⟨put4_ (bk_ BK121.out)⟩, ⟨bl3_ HB.out GE118.out GE119.out GE121.out⟩⟩
  have HC21 := Aside0.mk H; clear H
  go_upto_block 1 with (first | ((with_reducible refine gate_callee (f := 82) rfl ?_); refine gk_ (some 29) Tryd.func82 (lexer_isRun.calls (bt a0 t120) true _ A19.out) ?_; rintro e w22 ⟨rfl, hb⟩; refine ⟨_, rfl, ?_⟩; have n0_ := Aside0.mk (bb_ BK118.out hb); have n1_ := Aside0.mk (bb_ BK119.out hb); have n2_ := Aside0.mk (bb_ BK121.out hb); have n3_ := Aside0.mk (below_step (bl3_ HB.out GE118.out GE119.out GE121.out) hb); clear BK118; clear BK119; clear BK121; clear HB; have BK118 := n0_; have BK119 := n1_; have BK121 := n2_; have HB := n3_; clear n0_ n1_ n2_ n3_; (try clear hb); (try clear hb2); (try clear hk); (try clear hi)))
  (try simp only [Act.put, List.setIfInBounds_toArray, List.set_cons_zero, List.set_cons_succ])
  go_cut [8] (fun v8 wc => ∃ (kq : Nat) (x8_20 : Int), v8 = .int .i64 x8_20 ∧ Aside0 (lexer_next.j1 kq a0 t120 x8_20 = some (r1, r2, r3, r4, r5, r6, r7)) ∧ Aside0 (kq ≤ k) ∧ Aside0 (wc.heap[gb118]? = some (.cells #[.int .i64 0, .string (⟨#[]⟩ : ByteArray), .int .i64 0, .int .i64 0] 46 (0, 0))) ∧ Aside0 (wc.heap[gb119]? = some (.cells #[.int .i64 0, .int .i64 0] 26 (0, 0))) ∧ Aside0 (wc.heap[gb121]? = some (.cells #[.int .i64 0, .string (⟨#[]⟩ : ByteArray), .int .i64 0, .int .i64 0] 46 (0, 0))) ∧ Aside0 (Below w.heap.size w wc))
  case first =>
   have H := HC21.out; clear HC21; have H' := Aside0.mk H; clear H
   go_wp2
   go_loopg [8] k (fun kq v8 w' => ∃ (x8_1 : Int), v8 = .int .i64 x8_1 ∧ Aside0 (lexer_next.l0 kq a0 t120 x8_1 = some (r1, r2, r3, r4, r5, r6, r7)) ∧ Aside0 (kq ≤ k) ∧ Aside0 (w'.heap[gb118]? = some (.cells #[.int .i64 0, .string (⟨#[]⟩ : ByteArray), .int .i64 0, .int .i64 0] 46 (0, 0))) ∧ Aside0 (w'.heap[gb119]? = some (.cells #[.int .i64 0, .int .i64 0] 26 (0, 0))) ∧ Aside0 (w'.heap[gb121]? = some (.cells #[.int .i64 0, .string (⟨#[]⟩ : ByteArray), .int .i64 0, .int .i64 0] 46 (0, 0))) ∧ Aside0 (Below w.heap.size w w'))
   case atStart => exact ⟨(wrap64 (t120 + 1)), sr_, H', ⟨Nat.le_refl _⟩, ⟨bk_ BK118.out⟩, ⟨bk_ BK119.out⟩, ⟨bk_ BK121.out⟩, ⟨bl3_ HB.out GE118.out GE119.out GE121.out⟩⟩
   case round =>
    clear H'; (try clear c4); (try clear c4b0); (try clear c4b1); (try clear c11); (try clear c11b0); (try clear c12); (try clear c12b0); (try clear p13); (try clear q13); (try clear hx13); (try clear c20); (try clear p13); (try clear q13); obtain ⟨x8_1, rfl, HA, HK1, BK118, BK119, BK121, HB⟩ := hrel; obtain _ | k1 := gk
    · exact absurd HA.out (by simp [lexer_next.l0])
    have H := HA.out; clear HA; simp only [lexer_next.l0] at H; replace H := (sd_ H).symm; obtain ⟨c23b0, H⟩ | ⟨c23b0, H⟩ := H
    ·
     (first | rw [c23b0] | (simp only [i64_w, i32_w]; rw [c23b0]) | skip)
     have H' := Aside0.mk H; clear H
     go_wp2
     go_meet
     case rel => exact ⟨_, (x8_1), sr_, H', ⟨ol_ HK1.out⟩, ⟨bk_ BK118.out⟩, ⟨bk_ BK119.out⟩, ⟨bk_ BK121.out⟩, ⟨bl3_ HB.out GE118.out GE119.out GE121.out⟩⟩
    (first | rw [c23b0] | (simp only [i64_w, i32_w]; rw [c23b0]) | skip)
    replace H := gd_ H; obtain ⟨c24b0, H⟩ := H; replace H := bn_ H; obtain ⟨t123, A26, H⟩ := H; (try dsimp only at H); replace H := sb_ H; obtain ⟨rfl, H⟩ | ⟨rfl, H⟩ := H
    ·
     have H' := Aside0.mk H; clear H; have p25 : (0 ≤ (x8_1 : Int)) = True := dT_; have q25 : (x8_1 < (a0.size : Int)) = True := dT_; have hx25 := bt_at a0 x8_1
     go_wp2_with (first | (go_at_call 82; (with_reducible refine (lexer_isRun.calls (bt a0 x8_1) true _ A26.out).mono ?_); rintro e w28 ⟨rfl, hb⟩; refine cut4_ (bb_ BK118.out hb) (bb_ BK119.out hb) (bb_ BK121.out hb) (below_step (bl3_ HB.out GE118.out GE119.out GE121.out) hb) ?_; clear BK118 BK119 BK121 HB; intro BK118 BK119 BK121 HB; (try clear hb); (try clear hb2); (try clear hk); (try clear hi)))
     go_roundg k1
     case measure => have := HK1.out; omega
     case rel => exact ⟨(wrap64 (x8_1 + 1)), sr_, H', ⟨om_ HK1.out⟩, ⟨bk_ BK118.out⟩, ⟨bk_ BK119.out⟩, ⟨bk_ BK121.out⟩, ⟨bl3_ HB.out GE118.out GE119.out GE121.out⟩⟩
    have H' := Aside0.mk H; clear H; have p25 : (0 ≤ (x8_1 : Int)) = True := dT_; have q25 : (x8_1 < (a0.size : Int)) = True := dT_; have hx25 := bt_at a0 x8_1
    go_wp2_with (first | (go_at_call 82; (with_reducible refine (lexer_isRun.calls (bt a0 x8_1) false _ A26.out).mono ?_); rintro e w29 ⟨rfl, hb⟩; refine cut4_ (bb_ BK118.out hb) (bb_ BK119.out hb) (bb_ BK121.out hb) (below_step (bl3_ HB.out GE118.out GE119.out GE121.out) hb) ?_; clear BK118 BK119 BK121 HB; intro BK118 BK119 BK121 HB; (try clear hb); (try clear hb2); (try clear hk); (try clear hi)))
    go_meet
    case rel => exact ⟨_, (x8_1), sr_, H', ⟨ol_ HK1.out⟩, ⟨bk_ BK118.out⟩, ⟨bk_ BK119.out⟩, ⟨bk_ BK121.out⟩, ⟨bl3_ HB.out GE118.out GE119.out GE121.out⟩⟩
  case rest =>
   clear HC21; (try clear c4); (try clear c4b0); (try clear c4b1); (try clear c11); (try clear c11b0); (try clear c12); (try clear c12b0); (try clear p13); (try clear q13); (try clear hx13); (try clear c20); (try clear p13); (try clear q13); obtain ⟨kq, x8_20, rfl, HA, HJ20, BK118, BK119, BK121, HB⟩ := hcut
   cases kq with
   | zero => exact absurd HA.out (by simp [lexer_next.j1])
   | succ kj20 =>
    have H := HA.out; clear HA; simp only [lexer_next.j1] at H; replace H := gt_ H; obtain ⟨c30b0, c30b1, H⟩ := H; replace H := gt_ H; obtain ⟨c31b0, c31b1, H⟩ := H; replace H := gt_ H; obtain ⟨c32b0, c32b1, H⟩ := H; replace H := bn_ H; obtain ⟨⟨t124, t125, t126, t127, t128⟩, A33, H⟩ := H; (try dsimp only at H); have H' := Aside0.mk H; clear H
    go_wp2_with (first | ((with_reducible refine gate_callee (f := 83) rfl ?_); refine gk_ (some 47) Tryd.func83 (lexer_run.calls kj20 (a0.extract (t120 : Int).toNat (x8_20 : Int).toNat) t124 t125 t126 t127 t128 _ A33.out) ?_; rintro e w34 ⟨rfl, hb⟩; refine ⟨_, rfl, ?_⟩; refine cut4_ (bb_ BK118.out hb) (bb_ BK119.out hb) (bb_ BK121.out hb) (below_step (bl3_ HB.out GE118.out GE119.out GE121.out) hb) ?_; clear hb BK118 BK119 BK121 HB; intro BK118 BK119 BK121 HB; have hnb35 := NB121_118.out; have hnc35 := NB118_121.out; have hnb36 := NB121_119.out; have hnc36 := NB119_121.out; obtain ⟨hcz37_0, hcz37_1, hcz37_2, hcz37_3, hfz37_0, hfz37_1, hfz37_2, hfz37_3⟩ := cq4_ BK121.out))
    go_meet
    case rel => exact ⟨_, (x8_20), (t128), (t124), (t125), (t126), (t127), sr_, sr_, H', ⟨by have := HJ20.out; first | omega | exact Nat.le_refl _⟩, ⟨far4_ (bk_ BK118.out) NB118_121.out⟩, ⟨far4_ (bk_ BK119.out) NB119_121.out⟩, ⟨put4_ (bk_ BK121.out)⟩, ⟨bl3_ HB.out GE118.out GE119.out GE121.out⟩⟩
 case rest =>
  clear HC14; (try clear c4); (try clear c4b0); (try clear c4b1); (try clear c11); (try clear c11b0); (try clear c12); (try clear c12b0); (try clear p13); (try clear q13); (try clear hx13); (try clear p13); (try clear q13); obtain ⟨kq, x8_13, x9_13, x122000_13, x122001_13, x122002_13, x122003_13, rfl, rfl, HA, HJ13, BK118, BK119, BK121, HB⟩ := hcut
  cases kq with
  | zero => exact absurd HA.out (by simp [lexer_next.j2])
  | succ kj13 =>
   have H := HA.out; clear HA; simp only [lexer_next.j2] at H; replace H := (sp_ H).symm; obtain ⟨c60, H⟩ | ⟨c60, H⟩ := H
   ·
    have c60b0 := beq_eq_false_iff_ne.mpr c60; have c60b1 := bne_iff_ne.mpr c60; simp only [Option.some.injEq, Prod.mk.injEq] at H; obtain ⟨rfl, rfl, rfl, rfl, rfl, rfl, rfl⟩ := H; have hnb67 := NB118_119.out; have hnc67 := NB119_118.out; have hnb68 := NB118_121.out; have hnc68 := NB121_118.out; obtain ⟨hcz69_0, hcz69_1, hcz69_2, hcz69_3, hfz69_0, hfz69_1, hfz69_2, hfz69_3⟩ := cq4_ BK118.out; have hnb70 := NB119_121.out; have hnc70 := NB121_119.out; obtain ⟨hcz71_0, hcz71_1, hfz71_0, hfz71_1⟩ := cq2_ BK119.out
    go_wp2
    refine bodyPost_ret (results_list (rs := [.cell 4 46, .tmp 5, .cell 6 26]) rfl (by simp) (.cell gb118 46 #[.int .i64 0, .string (⟨#[]⟩ : ByteArray), .int .i64 0, .int .i64 0] (0, 0) _ rfl (by exact far2_ (put4_ (bk_ BK118.out)) NB118_119.out) Tryd.underlying46 rfl (by kernel_rfl) (.tmp (.cell gb119 26 #[.int .i64 x9_13, .int .i64 t120] (0, 0) _ rfl (by refine blk_put (cs := #[.int .i64 x9_13, .int .i64 0]) ?_ 1 _ rfl; refine blk_put (cs := #[.int .i64 0, .int .i64 0]) ?_ 0 _ rfl; exact far4_ (bk_ BK119.out) NB119_118.out) Tryd.underlying26 rfl (by kernel_rfl) .nil)))) rfl ?_; exact ⟨er_, bl3_ HB.out GE118.out GE119.out GE121.out⟩
   have c60b0 := beq_iff_eq.mpr c60; have c60b1 := bne_eq_false_iff_eq.mpr c60; clear c60; simp only [Option.some.injEq, Prod.mk.injEq] at H; obtain ⟨rfl, rfl, rfl, rfl, rfl, rfl, rfl⟩ := H; have hnb61 := NB121_118.out; have hnc61 := NB118_121.out; have hnb62 := NB121_119.out; have hnc62 := NB119_121.out; obtain ⟨hcz63_0, hcz63_1, hcz63_2, hcz63_3, hfz63_0, hfz63_1, hfz63_2, hfz63_3⟩ := cq4_ BK121.out; have hnb64 := NB118_119.out; have hnc64 := NB119_118.out; obtain ⟨hcz65_0, hcz65_1, hcz65_2, hcz65_3, hfz65_0, hfz65_1, hfz65_2, hfz65_3⟩ := cq4_ BK118.out; obtain ⟨hcz66_0, hcz66_1, hfz66_0, hfz66_1⟩ := cq2_ BK119.out
   go_wp2
   refine bodyPost_ret (results_list (rs := [.cell 4 46, .tmp 5, .cell 6 26]) rfl (by simp) (.cell gb118 46 #[.int .i64 x122000_13, .string x122001_13, .int .i64 x122002_13, .int .i64 t120] (0, 0) _ rfl (by refine far2_ ?_ NB118_119.out; refine blk_put (cs := #[.int .i64 x122000_13, .string x122001_13, .int .i64 x122002_13, .int .i64 0]) ?_ 3 _ rfl; refine blk_put (cs := #[.int .i64 x122000_13, .string x122001_13, .int .i64 0, .int .i64 0]) ?_ 2 _ rfl; refine blk_put (cs := #[.int .i64 x122000_13, .string (⟨#[]⟩ : ByteArray), .int .i64 0, .int .i64 0]) ?_ 1 _ rfl; refine blk_put (cs := #[.int .i64 0, .string (⟨#[]⟩ : ByteArray), .int .i64 0, .int .i64 0]) ?_ 0 _ rfl; exact far1_ (bk_ BK118.out) NB118_121.out) Tryd.underlying46 rfl (by kernel_rfl) (.tmp (.cell gb119 26 #[.int .i64 0, .int .i64 0] (0, 0) _ rfl (by refine blk_put (cs := #[.int .i64 0, .int .i64 0]) ?_ 1 _ rfl; refine blk_put (cs := #[.int .i64 0, .int .i64 0]) ?_ 0 _ rfl; exact far4_ (far1_ (bk_ BK119.out) NB119_121.out) NB119_118.out) Tryd.underlying26 rfl (by kernel_rfl) .nil)))) rfl ?_; exact ⟨er_, bl3_ HB.out GE118.out GE119.out GE121.out⟩
end Go.Proofs.YtkifdadhojbohaaDoor.Pr
namespace Go.Proofs.YtkifdadhojbohaaDoor.Pu
open Go.RowKit Go.Proofs.YtkifdadhojbohaaDoor Go.Proofs.YtkifdadhojbohaaDoor.Pr Go.Proofs.YtkifdadhojbohaaDoorW.PrintWords Go.Proofs.YtkifdadhojbohaaDoorW.PrintLast
theorem wrap_nat (i : Nat) (h : i ≤ 1000000) : wrap64 ((i : Int) + 1) = ((i + 1 : Nat) : Int) := by rw [wrap64_of (by omega) (by omega)]; rfl
theorem natO {i : Nat} : (0 : Int) ≤ (i : Int) := by omega
def isRunB (c : UInt8) : Bool := kindOf c.toNat == 2 || kindOf c.toNat == 3 || kindOf c.toNat == 4
def isLet (c : UInt8) : Bool := kindOf c.toNat == 2 && c.toNat != 95
def isDig (c : UInt8) : Bool := kindOf c.toNat == 3
def isDot (c : UInt8) : Bool := c.toNat == 46
def numL (t : List UInt8) : Int × Int :=
  let i := t.findIdx (· == 46)
  let w := t.take i
  let p := t.drop (i + 1)
  if w = [] ∨ (1 < w.length ∧ w.head? = some 48) ∨ (i < t.length ∧ (p = [] ∨ 3 < p.length)) then (0, 2)
  else if (w ++ p).all isDig = false then (0, 2)
  else if 10 < w.length then (0, 5)
  else if digitsVal (w ++ (p ++ [48, 48, 48]).take 3) > 1000000000 then (0, 5)
  else ((digitsVal (w ++ (p ++ [48, 48, 48]).take 3) : Int), 0)
def wordL (t : List UInt8) : Int := if t.any isDot then 2 else if t.any isLet then (if 32 < t.length then 6 else 0) else 2
def badT (c : UInt8) : Bool := c.toNat < 32 || 126 < c.toNat || c.toNat == 34
def titleL (t : List UInt8) : Int :=
  if t = [] ∨ t.head? = some 32 ∨ t.getLast? = some 32 then 2 else if t.any badT then 2 else if 40 < t.length then 6 else 0
structure Res where
  kind : Int
  text : List UInt8
  n : Int
  rest : List UInt8
  code : Int
def clsL (t rest : List UInt8) : Res := if (numL t).2 = 2 then ⟨1, t, 0, rest, wordL t⟩ else ⟨2, [], (numL t).1, rest, (numL t).2⟩
def inStr (c : UInt8) : Bool := c.toNat != 34 && c.toNat != 10
def textL (l : List UInt8) : Res :=
  match l.dropWhile inStr with
  | [] => ⟨0, [], 0, [], 2⟩
  | c :: r => if c.toNat = 34 then ⟨3, l.takeWhile inStr, 0, r, titleL (l.takeWhile inStr)⟩ else ⟨0, [], 0, [], 2⟩
def tokL : List UInt8 → Res
  | [] => ⟨5, [], 0, [], 0⟩
  | c :: l =>
    if isRunB c then clsL (c :: l.takeWhile isRunB) (l.dropWhile isRunB)
    else if c.toNat = 34 then textL l
    else if kindOf c.toNat = 5 then ⟨4, [c], 0, l, 0⟩
    else ⟨0, [], 0, [], 2⟩
theorem isRun_f (c : UInt8) : lexer_isRun.f (c.toNat : Int) = some (isRunB c) := by
  unfold lexer_isRun.f isRunB
  rw [kinds_f]
  simp only [Option.bind_some, at_byte]
  rw [if_pos (by omega), if_pos (byte_lt c)]
  by_cases h2 : kindOf c.toNat = 2
  · rw [if_pos (by omega)]; simp [h2]
  · rw [if_neg (by omega)]
    by_cases h3 : kindOf c.toNat = 3
    · rw [if_pos (by omega)]; simp [h3]
    · rw [if_neg (by omega)]
      have : ((kindOf c.toNat : Int) == 4) = (kindOf c.toNat == 4) := by
        rw [Bool.eq_iff_iff]; simp only [beq_iff_eq]; omega
      rw [this]; simp [h2, h3]
theorem word_loop (s : ByteArray) (hs : s.size ≤ 1000000) : ∀ (d i : Nat) (b : Bool) (l : List UInt8), i ≤ s.size → s.size - i = d → (lst s).drop i = l →
    Ev (fun k => lexer_word.l0 k s b s.size i) (if l.any isDot then 2 else if b || l.any isLet then (if 32 < s.size then 6 else 0) else 2) := by
  intro d
  induction d with
  | zero =>
    intro i b l hi hd hl
    obtain rfl : i = s.size := by omega
    obtain rfl : l = [] := by rw [← hl]; exact List.drop_eq_nil_of_le (by rw [lst_length]; omega)
    refine Ev.succ ?_
    simp only [lexer_word.l0]
    refine Ev.ifn (by omega) ?_
    cases b with
    | false => exact Ev.ifn (by decide) (Ev.ret (by simp))
    | true =>
      refine Ev.ifp rfl ?_
      by_cases h : 32 < s.size
      · exact Ev.ifp (by omega) (Ev.ret (by simp [h]))
      · exact Ev.ifn (by omega) (Ev.ret (by simp [h]))
  | succ d ih =>
    intro i b l hi hd hl
    cases l with
    | nil => exact absurd (at_nil hi hl) (by omega)
    | cons c l =>
      obtain ⟨h1, h2, h3⟩ := at_cons hl
      refine Ev.succ ?_
      simp only [lexer_word.l0]
      rw [h2, wrap_nat i (by omega)]
      refine Ev.ifp (by omega) (Ev.ifp (by omega) (Ev.ifp (by omega) ?_))
      by_cases h46 : c.toNat = 46
      · exact Ev.ifp (by omega) (Ev.ret (by simp [isDot, h46]))
      · refine Ev.ifn (by omega) ?_
        have hdot : isDot c = false := by simp [isDot, h46]
        simp only [List.any_cons, hdot, Bool.false_or]
        cases b with
        | true => exact Ev.ifp rfl (by simpa using ih (i + 1) true l (by omega) (by omega) h3)
        | false =>
          refine Ev.ifn (by decide) (Ev.val kinds_f (Ev.ifp (by omega) (Ev.ifp (byte_lt c) ?_)))
          rw [at_byte]
          by_cases hk : kindOf c.toNat = 2
          · refine Ev.ifp (by omega) ?_
            have hb : ((c.toNat : Int) != 95) = isLet c := by
              rw [isLet, hk, Bool.eq_iff_iff]; simp; omega
            rw [hb]
            simpa using ih (i + 1) (isLet c) l (by omega) (by omega) h3
          · refine Ev.ifn (by omega) ?_
            have hb : isLet c = false := by simp [isLet, hk]
            simpa [hb] using ih (i + 1) false l (by omega) (by omega) h3
theorem word_f (s : ByteArray) (hs : s.size ≤ 1000000) : Ev (fun k => lexer_word.f k s) (wordL (lst s)) := by
  have h := word_loop s hs _ 0 false (lst s) (by omega) rfl rfl
  simp only [Bool.false_or] at h
  exact h
theorem title_loop (s : ByteArray) (hs : s.size ≤ 1000000) : ∀ (d i : Nat) (l : List UInt8), i ≤ s.size → s.size - i = d → (lst s).drop i = l →
    Ev (fun k => lexer_title.l0 k s s.size i) (if l.any badT then 2 else if 40 < s.size then 6 else 0) := by
  intro d
  induction d with
  | zero =>
    intro i l hi hd hl
    obtain rfl : i = s.size := by omega
    obtain rfl : l = [] := by rw [← hl]; exact List.drop_eq_nil_of_le (by rw [lst_length]; omega)
    refine Ev.succ ?_
    simp only [lexer_title.l0]
    refine Ev.ifn (by omega) ?_
    by_cases h : 40 < s.size
    · exact Ev.ifp (by omega) (Ev.ret (by simp [h]))
    · exact Ev.ifn (by omega) (Ev.ret (by simp [h]))
  | succ d ih =>
    intro i l hi hd hl
    cases l with
    | nil => exact absurd (at_nil hi hl) (by omega)
    | cons c l =>
      obtain ⟨h1, h2, h3⟩ := at_cons hl
      refine Ev.succ ?_
      simp only [lexer_title.l0]
      rw [h2, wrap_nat i (by omega)]
      refine Ev.ifp (by omega) (Ev.ifp (by omega) (Ev.ifp (by omega) ?_))
      by_cases ha : c.toNat < 32
      · exact Ev.ifp (by omega) (Ev.ret (by simp [badT, ha]))
      · refine Ev.ifn (by omega) ?_
        by_cases hb : 126 < c.toNat
        · exact Ev.ifp (by omega) (Ev.ret (by simp [badT, hb]))
        · refine Ev.ifn (by omega) ?_
          by_cases hc : c.toNat = 34
          · exact Ev.ifp (by omega) (Ev.ret (by simp [badT, hc]))
          · refine Ev.ifn (by omega) ?_
            have : badT c = false := by simp [badT, ha, hb, hc]
            simp only [List.any_cons, this, Bool.false_or]
            exact ih (i + 1) l (by omega) (by omega) h3
theorem head_bt {s : ByteArray} (h : 0 < s.size) : ∃ c, (lst s).head? = some c ∧ bt s 0 = (c.toNat : Int) := by
  cases hl : lst s with
  | nil => have := lst_length s; rw [hl] at this; simp at this; omega
  | cons c l =>
    have := at_cons (s := s) (i := 0) (c := c) (l := l) (by simpa using hl)
    exact ⟨c, rfl, this.2.1⟩
theorem bt_get {s : ByteArray} {i : Nat} (h : i < s.size) : ∃ c, (lst s)[i]? = some c ∧ bt s (i : Int) = (c.toNat : Int) := by
  have hi : i < (lst s).length := by rw [lst_length]; exact h
  refine ⟨(lst s)[i], List.getElem?_eq_getElem hi, ?_⟩
  exact (at_cons (s := s) (i := i) (c := (lst s)[i]) (l := (lst s).drop (i + 1)) (List.drop_eq_getElem_cons hi)).2.1
theorem last_bt {s : ByteArray} (h : 0 < s.size) : ∃ c, (lst s).getLast? = some c ∧ bt s ((s.size - 1 : Nat) : Int) = (c.toNat : Int) := by
  obtain ⟨c, h1, h2⟩ := bt_get (s := s) (i := s.size - 1) (by omega)
  refine ⟨c, ?_, h2⟩
  rw [List.getLast?_eq_getElem?, lst_length]; exact h1
theorem byte_eq {c : UInt8} {n : Nat} (hn : n < 256) : (some c = some (UInt8.ofNat n)) ↔ c.toNat = n := by
  rw [Option.some.injEq, ← UInt8.toNat_inj, UInt8.toNat_ofNat', Nat.mod_eq_of_lt hn]
theorem title_f (s : ByteArray) (hs : s.size ≤ 1000000) : Ev (fun k => lexer_title.f k s) (titleL (lst s)) := by
  have hloop := title_loop s hs _ 0 (lst s) (by omega) rfl rfl
  unfold lexer_title.f titleL
  by_cases h0 : lst s = []
  · refine Ev.ifp (by rw [toList_lst]; exact h0) (Ev.succ ?_)
    simp only [lexer_title.j0]
    exact Ev.ifp (by simp) (Ev.ret (by simp [h0]))
  · have hp : 0 < s.size := by
      rw [← lst_length]; exact List.length_pos_iff.2 h0
    refine Ev.ifn (by rw [toList_lst]; exact h0) (Ev.ifp (by omega) ?_)
    obtain ⟨c, hc, hb⟩ := head_bt hp
    obtain ⟨d, hd, he⟩ := last_bt hp
    rw [hb]
    have hw : wrap64 ((s.size : Int) - 1) = ((s.size - 1 : Nat) : Int) := by rw [wrap64_of (by omega) (by omega)]; omega
    rw [hw, he, hc, hd]
    have i1 : (some c = some (32 : UInt8)) ↔ c.toNat = 32 := byte_eq (by decide)
    have i2 : (some d = some (32 : UInt8)) ↔ d.toNat = 32 := byte_eq (by decide)
    by_cases h32 : c.toNat = 32
    · refine Ev.ifp (by omega) (Ev.succ ?_)
      simp only [lexer_title.j0]
      exact Ev.ifp (by simp) (Ev.ret (by rw [if_pos (.inr (.inl (i1.2 h32)))]))
    · refine Ev.ifn (by omega) (Ev.ifp (by omega) (Ev.ifp (by omega) (Ev.succ ?_)))
      simp only [lexer_title.j0]
      by_cases hl : d.toNat = 32
      · refine Ev.ifp (by rw [beq_iff_eq]; omega) (Ev.ret (by rw [if_pos (.inr (.inr (i2.2 hl)))]))
      · refine Ev.ifn (by rw [beq_iff_eq]; omega) ?_
        rw [if_neg (by rw [i1, i2]; simp [h0, h32, hl])]
        rw [lst_length]
        exact hloop
theorem isDig_iff (c : UInt8) : isDig c = true ↔ 48 ≤ c.toNat ∧ c.toNat ≤ 57 := by
  unfold isDig kindOf
  rw [beq_iff_eq]
  constructor
  · intro h
    (repeat' split at h) <;> omega
  · intro h
    rw [if_neg (by omega), if_neg (by omega), if_pos h]
theorem digs_all {l : List UInt8} (h : l.all isDig = true) : l.all (fun c => 48 ≤ c.toNat && c.toNat ≤ 57) = true := by
  rw [List.all_eq_true] at h ⊢
  intro c hc
  have := (isDig_iff c).1 (h c hc)
  simp [this.1, this.2]
def tailL (w p : List UInt8) : Int × Int :=
  if 10 < w.length then (0, 5)
  else if digitsVal (w ++ (p ++ [48, 48, 48]).take 3) > 1000000000 then (0, 5)
  else ((digitsVal (w ++ (p ++ [48, 48, 48]).take 3) : Int), 0)
theorem num_tail (w p : ByteArray) (hw : lst w ≠ []) (hs : w.size + p.size ≤ 1000000) (hd : (lst w ++ lst p).all isDig = true) (k : Nat) (x : Int) :
    (if (w.size : Int) > 10 then (some ((0 : Int), (5 : Int))) else (if p.size + 3 ≤ 9223372036854775807 then (if (0 : Int) ≤ 3 then (if 3 ≤ ((p ++ (⟨#[48, 48, 48]⟩ : ByteArray)).size : Int) then (if w.size + ((p ++ (⟨#[48, 48, 48]⟩ : ByteArray)).extract 0 3).size ≤ 9223372036854775807 then ((strconv_ParseInt.f (w ++ ((p ++ (⟨#[48, 48, 48]⟩ : ByteArray)).extract 0 3)) 10 64).bind fun bt110 => (if bt110.1 > 1000000000 then (some (0, 5)) else (some (bt110.1, 0)))) else (none)) else (none)) else (none)) else (none))) = some (tailL (lst w) (lst p)) := by
  have hl : (lst w).length = w.size := lst_length w
  unfold tailL
  by_cases h10 : 10 < w.size
  · rw [if_pos (show (w.size : Int) > 10 by omega), if_pos (show 10 < (lst w).length by omega)]
  · rw [if_neg (show ¬ (w.size : Int) > 10 by omega), if_neg (show ¬ 10 < (lst w).length by omega), if_pos (show p.size + 3 ≤ 9223372036854775807 by omega), if_pos (show (0 : Int) ≤ 3 by decide)]
    have hsz : ((p ++ (⟨#[48, 48, 48]⟩ : ByteArray)).size) = p.size + 3 := by rw [ByteArray.size_append]; rfl
    rw [if_pos (by omega)]
    have hlx : lst ((p ++ (⟨#[48, 48, 48]⟩ : ByteArray)).extract 0 3) = (lst p ++ [48, 48, 48]).take 3 := by
      rw [lst_extract, lst_append]; rfl
    have hx3 : ((p ++ (⟨#[48, 48, 48]⟩ : ByteArray)).extract 0 3).size = 3 := by
      rw [← lst_length, hlx, List.length_take, List.length_append, lst_length]; simp
    rw [if_pos (by omega)]
    have hla : lst (w ++ ((p ++ (⟨#[48, 48, 48]⟩ : ByteArray)).extract 0 3)) = lst w ++ (lst p ++ [48, 48, 48]).take 3 := by rw [lst_append, hlx]
    have hsa : (w ++ ((p ++ (⟨#[48, 48, 48]⟩ : ByteArray)).extract 0 3)).size = w.size + 3 := by rw [ByteArray.size_append, hx3]
    have h0 : 0 < w.size := by rw [← hl]; exact List.length_pos_iff.2 hw
    rw [List.all_append, Bool.and_eq_true] at hd
    have hdig : (lst (w ++ ((p ++ (⟨#[48, 48, 48]⟩ : ByteArray)).extract 0 3))).all (fun c => 48 ≤ c.toNat && c.toNat ≤ 57) = true := by
      rw [hla]
      apply digs_all
      rw [List.all_append, hd.1, Bool.true_and, List.all_eq_true]
      intro c hc
      have hc2 := List.mem_of_mem_take hc
      rw [List.mem_append] at hc2
      rcases hc2 with hc2 | hc2
      · exact (List.all_eq_true.1 hd.2) c hc2
      · simp at hc2; subst hc2; decide
    have hpi : strconv_ParseInt.f (w ++ ((p ++ (⟨#[48, 48, 48]⟩ : ByteArray)).extract 0 3)) 10 64 = some ((digitsVal (lst w ++ (lst p ++ [48, 48, 48]).take 3) : Int), .nilIface) := by
      unfold strconv_ParseInt.f
      rw [if_pos ⟨rfl, rfl, by omega, by omega, hdig⟩]
      rw [← hla]; rfl
    rw [hpi]
    simp only [Option.bind_some]
    by_cases hm : digitsVal (lst w ++ (lst p ++ [48, 48, 48]).take 3) > 1000000000
    · rw [if_pos (by omega), if_pos hm]
    · rw [if_neg (by omega), if_neg hm]
theorem num_loop (w p : ByteArray) (hw : lst w ≠ []) (hs : w.size + p.size ≤ 1000000) : ∀ (d i : Nat) (l : List UInt8), i ≤ w.size + p.size → w.size + p.size - i = d → (lst w ++ lst p).drop i = l →
    ((lst w ++ lst p).take i).all isDig = true → Ev (fun k => lexer_number.l0 k w p ((w.size + p.size : Nat) : Int) i) (if l.all isDig then tailL (lst w) (lst p) else (0, 2)) := by
  have hsz : (w ++ p).size = w.size + p.size := ByteArray.size_append
  intro d
  induction d with
  | zero =>
    intro i l hi hd hl ht
    obtain rfl : i = w.size + p.size := by omega
    have hlen : (lst w ++ lst p).length = w.size + p.size := by simp [lst_length]
    obtain rfl : l = [] := by rw [← hl]; exact List.drop_eq_nil_of_le (by omega)
    rw [List.take_of_length_le (by omega)] at ht
    refine Ev.succ ?_
    simp only [lexer_number.l0]
    refine Ev.ifn (by omega) ?_
    exact Ev.congr (fun k => num_tail w p hw hs ht k 0) (Ev.ret (by simp))
  | succ d ih =>
    intro i l hi hd hl ht
    cases l with
    | nil => have := congrArg List.length hl; simp [lst_length] at this; omega
    | cons c l =>
      rw [← lst_append] at hl
      obtain ⟨h1, h2, h3⟩ := at_cons hl
      have htk : (lst w ++ lst p).take (i + 1) = (lst w ++ lst p).take i ++ [c] := by
        rw [← lst_append, List.take_succ_eq_append_getElem (by rw [lst_length]; exact h1)]
        congr 2
        have := congrArg (·[0]?) hl
        simp only [List.getElem?_drop, Nat.add_zero, List.getElem?_cons_zero] at this
        exact (List.getElem?_eq_some_iff.1 this).2
      refine Ev.succ ?_
      simp only [lexer_number.l0]
      rw [h2, wrap_nat i (by omega)]
      refine Ev.ifp (by omega) (Ev.val kinds_f (Ev.ifp (by omega) (Ev.ifp (by omega) (Ev.ifp (by omega) (Ev.ifp (by omega) (Ev.ifp (byte_lt c) ?_))))))
      rw [at_byte]
      by_cases hk : kindOf c.toNat = 3
      · refine Ev.ifp (by omega) ?_
        have hdg : isDig c = true := by simp [isDig, hk]
        rw [lst_append] at h3
        have := ih (i + 1) l (by omega) (by omega) h3 (by rw [htk, List.all_append, ht]; simp [hdg])
        simpa [hdg] using this
      · refine Ev.ifn (by omega) (Ev.ret ?_)
        have hdg : isDig c = false := by simp [isDig, hk]
        simp [hdg]
theorem num_j0 (w p : ByteArray) (hs : w.size + p.size ≤ 1000000) (b : Bool) (hw : b = false → lst w ≠ []) :
    Ev (fun k => lexer_number.j0 k w p b) (if b then (0, 2) else if (lst w ++ lst p).all isDig then tailL (lst w) (lst p) else (0, 2)) := by
  refine Ev.succ ?_
  simp only [lexer_number.j0]
  cases b with
  | true => exact Ev.ifp (by simp) (Ev.ret (by simp))
  | false =>
    refine Ev.ifn (by simp) ?_
    have hwr : wrap64 ((w.size : Int) + (p.size : Int)) = ((w.size + p.size : Nat) : Int) := by rw [wrap64_of (by omega) (by omega)]; omega
    rw [hwr]
    have := num_loop w p (hw rfl) hs _ 0 _ (by omega) rfl rfl (by simp)
    simpa using this
theorem cut_f (s : ByteArray) (hs : s.size ≤ 1000000) : ∃ w p b, strings_Cut.f s (⟨#[46]⟩ : ByteArray) = some (w, p, b) ∧ lst w = (lst s).take ((lst s).findIdx (· == 46)) ∧ lst p = (lst s).drop ((lst s).findIdx (· == 46) + 1) ∧ b = decide ((lst s).findIdx (· == 46) < s.size) := by
  unfold strings_Cut.f
  rw [if_pos ⟨rfl, by omega⟩]
  unfold cutDot
  by_cases h : (lst s).findIdx (· == 46) < s.size
  · have h' : s.data.toList.findIdx (· == 46) < s.size := h
    refine ⟨_, _, _, by rw [if_pos h'], ?_, ?_, by simp [h]⟩
    · rw [lst_extract]; simp [lst]
    · rw [lst_extract, List.take_of_length_le (by rw [lst_length]; omega)]; rfl
  · have h' : ¬ s.data.toList.findIdx (· == 46) < s.size := h
    refine ⟨_, _, _, by rw [if_neg h'], ?_, ?_, by simp [h]⟩
    · rw [List.take_of_length_le (by rw [lst_length]; omega)]
    · rw [List.drop_eq_nil_of_le (by rw [lst_length]; omega)]; rfl
theorem number_f (s : ByteArray) (hs : s.size ≤ 1000000) : Ev (fun k => lexer_number.f k s) (numL (lst s)) := by
  obtain ⟨w, p, b, hc, hw, hp, hb⟩ := cut_f s hs
  have hlw : (lst w).length = w.size := lst_length w
  have hlp : (lst p).length = p.size := lst_length p
  have hle : w.size + p.size ≤ 1000000 := by
    rw [← hlw, ← hlp, hw, hp, List.length_take, List.length_drop, lst_length]; omega
  have e : numL (lst s) = (if lst w = [] ∨ (1 < (lst w).length ∧ (lst w).head? = some 48) ∨ ((lst s).findIdx (· == 46) < s.size ∧ (lst p = [] ∨ 3 < (lst p).length)) then (0, 2) else if (lst w ++ lst p).all isDig = false then (0, 2) else tailL (lst w) (lst p)) := by
    unfold numL tailL
    dsimp only
    rw [← hw, ← hp, lst_length s]
  rw [e]
  unfold lexer_number.f
  refine Ev.val hc ?_
  simp only [gt_iff_lt]
  have h48 : ∀ c : UInt8, (some c = some (48 : UInt8)) ↔ c.toNat = 48 := fun c => byte_eq (by decide)
  by_cases h0 : lst w = []
  · refine Ev.ifp (by rw [toList_lst]; exact h0) ?_
    have := num_j0 w p hle true (by simp)
    rw [if_pos (.inl h0)]
    simpa using this
  · refine Ev.ifn (by rw [toList_lst]; exact h0) ?_
    have hp0 : 0 < w.size := by rw [← hlw]; exact List.length_pos_iff.2 h0
    obtain ⟨c, hc1, hc2⟩ := head_bt hp0
    have tailed : (1 < (lst w).length ∧ (lst w).head? = some 48 → False) → Ev (fun k => if b = true then (if p.toList = ([] : List UInt8) then (lexer_number.j0 k w p true) else (lexer_number.j0 k w p (decide (3 < (p.size : Int))))) else (lexer_number.j0 k w p false))
        (if lst w = [] ∨ (1 < (lst w).length ∧ (lst w).head? = some 48) ∨ ((lst s).findIdx (· == 46) < s.size ∧ (lst p = [] ∨ 3 < (lst p).length)) then (0, 2) else if (lst w ++ lst p).all isDig = false then (0, 2) else tailL (lst w) (lst p)) := by
      intro hz
      by_cases hb1 : (lst s).findIdx (· == 46) < s.size
      · have : b = true := by rw [hb]; simp [hb1]
        subst this
        refine Ev.ifp rfl ?_
        by_cases hpn : lst p = []
        · refine Ev.ifp (by rw [toList_lst]; exact hpn) ?_
          rw [if_pos (.inr (.inr ⟨hb1, .inl hpn⟩))]
          simpa using num_j0 w p hle true (by simp)
        · refine Ev.ifn (by rw [toList_lst]; exact hpn) ?_
          by_cases h3 : 3 < p.size
          · rw [if_pos (.inr (.inr ⟨hb1, .inr (by omega)⟩))]
            have : (decide (3 < (p.size : Int))) = true := by simp; omega
            rw [this]
            simpa using num_j0 w p hle true (by simp)
          · rw [if_neg (by rintro (h | h | h); exact h0 h; exact hz h; rcases h.2 with h | h; exact hpn h; omega)]
            have : (decide (3 < (p.size : Int))) = false := by simp; omega
            rw [this]
            have hj := num_j0 w p hle false (fun _ => h0)
            by_cases ha : (lst w ++ lst p).all isDig = true
            · simpa [ha] using hj
            · rw [Bool.not_eq_true] at ha; simpa [ha] using hj
      · have : b = false := by rw [hb]; simp [hb1]
        subst this
        refine Ev.ifn (by simp) ?_
        rw [if_neg (by rintro (h | h | h); exact h0 h; exact hz h; exact hb1 h.1)]
        have hj := num_j0 w p hle false (fun _ => h0)
        by_cases ha : (lst w ++ lst p).all isDig = true
        · simpa [ha] using hj
        · rw [Bool.not_eq_true] at ha; simpa [ha] using hj
    by_cases h1 : 1 < w.size
    · refine Ev.ifp (by omega) (Ev.ifp (by omega) ?_)
      rw [hc2]
      by_cases hz : c.toNat = 48
      · refine Ev.ifp (by omega) ?_
        rw [if_pos (.inr (.inl ⟨by omega, by rw [hc1, h48]; exact hz⟩))]
        simpa using num_j0 w p hle true (by simp)
      · refine Ev.ifn (by omega) ?_
        exact tailed (fun h => hz (by have := h.2; rwa [hc1, h48] at this))
    · refine Ev.ifn (by omega) ?_
      exact tailed (fun h => h1 (by omega))
end Go.Proofs.YtkifdadhojbohaaDoor.Pu
namespace Go.Proofs.YtkifdadhojbohaaDoor.Pr
open Go.Proofs.YtkifdadhojbohaaDoor
open Go.RowKit Go.Proofs.YtkifdadhojbohaaDoorW.PrintWords Go.Proofs.YtkifdadhojbohaaDoorW.PrintLast Go.Proofs.YtkifdadhojbohaaDoorW.PrintMore
attribute [local go_sem] max2_int min2_int max_two min_two max_three min_three max_four min_four   -- for this text's walks alone
set_option linter.unusedVariables false
set_option linter.unusedSimpArgs false
def lexer_Lex.l0 : Nat → ByteArray → List (S46) → Int → Option ((List (S46)) × Int × Int)
 | 0, _, _, _ => none
 | k + 1, x0, x4, x5 => (lexer_next.f k x0 x5).bind fun bt137 => (if bt137.2.2.2.2.2.1 = 0 then (if x4.length < 3518437208883 then ((some (x4 ++ [(⟨bt137.1, bt137.2.1, bt137.2.2.1, bt137.2.2.2.1⟩ : S46)] : List (S46))).bind fun y146 => (if bt137.1 = 5 then (some (y146, 0, 0)) else (lexer_Lex.l0 k x0 y146 bt137.2.2.2.2.1))) else (none)) else (some (([] : List (S46)), bt137.2.2.2.2.2.1, bt137.2.2.2.2.2.2)))
def lexer_Lex.f (k : Nat) (a0 : ByteArray) : Option ((List (S46)) × Int × Int) := if (a0.size : Int) > 65536 then (some (([] : List (S46)), 6, 65536)) else (lexer_Lex.l0 k a0 ([] : List (S46)) 0)
theorem lexer_Lex.mono_l : ∀ k, (∀ y0 y1 y2, LeO (lexer_Lex.l0 k y0 y1 y2) (lexer_Lex.l0 (k + 1) y0 y1 y2))
 | 0 => fun _ _ _ r h => by simp [lexer_Lex.l0] at h
 | k + 1 => by
  have ih0 := lexer_Lex.mono_l k
  ·
   intro y0 y1 y2
   unfold lexer_Lex.l0
   repeat' first
   | (with_reducible exact LeO.refl _)
   | exact ih0 _ _ _
   | exact lexer_next.mono _ _ _
   | exact LeO.none _
   | refine LeO.ite ?_ ?_
   | refine LeO.bind ?_ (fun _ => ?_)
theorem lexer_Lex.mono : ∀ a0 k, LeO (lexer_Lex.f k a0) (lexer_Lex.f (k + 1) a0) := by
 intro a0 k
 have ih0 := lexer_Lex.mono_l k
 unfold lexer_Lex.f
 repeat' first
   | (with_reducible exact LeO.refl _)
   | exact ih0 _ _ _
   | exact lexer_next.mono _ _ _
   | exact LeO.none _
   | refine LeO.ite ?_ ?_
   | refine LeO.bind ?_ (fun _ => ?_)
theorem lexer_Lex.calls (k : Nat) (a0 : ByteArray) (r1 : List (S46)) (r2 : Int) (r3 : Int) (w : World) (h : lexer_Lex.f k a0 = some (r1, r2, r3)) :
  Calls Tryd.prog 25 #[.string a0] w fun e w' => ∃ v0_ : Value, e = .returned (.tuple #[v0_, .agg #[.int .i64 r2, .int .i64 r3]]) ∧ Kd.R k46 46 w' w.heap.size (fun _ => True) v0_ r1 ∧ Below w.heap.size w w' := by
 have hu26 := Tryd.underlying26; have hu46 := Tryd.underlying46; have HB := Aside0.mk (Below.refl w.heap.size w); have H : (if (a0.size : Int) > 65536 then (some (([] : List (S46)), 6, 65536)) else (lexer_Lex.l0 k a0 ([] : List (S46)) 0)) = some (r1, r2, r3) := h; clear h; replace H := sp_ H; obtain ⟨c2, H⟩ | ⟨c2, H⟩ := H
 ·
  have c2b0 := decide_eq_true c2; have c2b1 : decide (65536 < a0.size) = true := decide_eq_true (by omega); clear c2; simp only [Option.some.injEq, Prod.mk.injEq] at H; obtain ⟨rfl, rfl, rfl⟩ := H
  go_enter Tryd.func25, Tryd.ntmps25
  go_wp2_with (first | ((with_reducible refine gate_dst (N := 3) rfl ?_); refine bx_ (N := 3) (cs := #[.int .i64 0, .int .i64 0]) (t := 26) ?_; intro gb136 hg w3 hbox hb; refine cut4_ (below_step (bl_ HB.out) hb) (hbox) (bz_ (w := w) hg (bl_ HB.out)) (bz_ (w := w) hg (bl_ HB.out)) ?_; clear HB; intro HB BK136 GW136 GE136; clear hb hbox hg; obtain ⟨hcz4_0, hcz4_1, hfz4_0, hfz4_1⟩ := cq2_ BK136.out))
  iterate 3 (try (go_step3; (try go_wp2_with (first | ((with_reducible refine gate_dst (N := 3) rfl ?_); refine bx_ (N := 3) (cs := #[.int .i64 0, .int .i64 0]) (t := 26) ?_; intro gb136 hg w3 hbox hb; refine cut4_ (below_step (bl_ HB.out) hb) (hbox) (bz_ (w := w) hg (bl_ HB.out)) (bz_ (w := w) hg (bl_ HB.out)) ?_; clear HB; intro HB BK136 GW136 GE136; clear hb hbox hg; obtain ⟨hcz4_0, hcz4_1, hfz4_0, hfz4_1⟩ := cq2_ BK136.out)))))
  (try rw [Exit.noGoto_ret]); refine bodyPost_ret (results_tc rfl _ _ gb136 26 #[.int .i64 6, .int .i64 65536] (0, 0) _ rfl (by exact put2_ (bk_ BK136.out)) Tryd.underlying26 rfl (by kernel_rfl)) rfl ?_; exact ⟨_, er_, ni_, bl1_ HB.out GE136.out⟩
 have c2b0 := decide_eq_false c2; have c2b1 : decide (65536 < a0.size) = false := decide_eq_false (by omega); clear c2; have H' := Aside0.mk H; clear H
 go_enter Tryd.func25, Tryd.ntmps25
 go_wp2_with (first | ((with_reducible refine gate_dst (N := 3) rfl ?_); refine bx_ (N := 3) (cs := #[.int .i64 0, .int .i64 0]) (t := 26) ?_; intro gb136 hg w5 hbox hb; refine cut4_ (below_step (bl_ HB.out) hb) (hbox) (bz_ (w := w) hg (bl_ HB.out)) (bz_ (w := w) hg (bl_ HB.out)) ?_; clear HB; intro HB BK136 GW136 GE136; clear hb hbox hg))
 iterate 3 (try (go_step3; (try go_wp2_with (first | ((with_reducible refine gate_dst (N := 3) rfl ?_); refine bx_ (N := 3) (cs := #[.int .i64 0, .int .i64 0]) (t := 26) ?_; intro gb136 hg w5 hbox hb; refine cut4_ (below_step (bl_ HB.out) hb) (hbox) (bz_ (w := w) hg (bl_ HB.out)) (bz_ (w := w) hg (bl_ HB.out)) ?_; clear HB; intro HB BK136 GW136 GE136; clear hb hbox hg)))))
 go_loopg [4, 5] k (fun kq v4 v5 w' => ∃ (x4_1 : List (S46)) (x5_1 : Int) (x137000_1 : Int) (x137001_1 : Int), v5 = .int .i64 x5_1 ∧ Aside0 (lexer_Lex.l0 kq a0 x4_1 x5_1 = some (r1, r2, r3)) ∧ Aside0 (kq ≤ k) ∧ Aside0 (Kd.R k46 46 w' w.heap.size (fun _ => True) v4 x4_1) ∧ Aside0 (w'.heap[gb136]? = some (.cells #[.int .i64 x137000_1, .int .i64 x137001_1] 26 (0, 0))) ∧ Aside0 (Below w.heap.size w w'))
 case atStart => exact ⟨(([] : List (S46))), (0), (0), (0), sr_, H', ⟨Nat.le_refl _⟩, ⟨ni_⟩, ⟨bk_ BK136.out⟩, ⟨bl1_ HB.out GE136.out⟩⟩
 case round =>
  clear H'; (try clear c2); (try clear c2b0); (try clear c2b1); obtain ⟨x4_1, x5_1, x137000_1, x137001_1, rfl, HA, HK1, HO_4, BK136, HB⟩ := hrel; obtain _ | k1 := gk
  · exact absurd HA.out (by simp [lexer_Lex.l0])
  have H := HA.out; clear HA; simp only [lexer_Lex.l0] at H; replace H := bn_ H; obtain ⟨⟨t137, t138, t139, t140, t141, t142, t143⟩, A6, H⟩ := H; (try dsimp only at H); replace H := (sp_ H).symm; obtain ⟨c7, H⟩ | ⟨c7, H⟩ := H
  ·
   have c7b0 := beq_eq_false_iff_ne.mpr c7; have c7b1 := bne_iff_ne.mpr c7; simp only [Option.some.injEq, Prod.mk.injEq] at H; obtain ⟨rfl, rfl, rfl⟩ := H
   try go_wp2_with (first | ((with_reducible refine gate_callee (f := 55) rfl ?_); refine gk_ (some 16) Tryd.func55 (lexer_next.calls k1 a0 x5_1 t137 t138 t139 t140 t141 t142 t143 _ A6.out) ?_; rintro e w31 ⟨rfl, hb⟩; refine ⟨_, rfl, ?_⟩; refine cut3_ (Kd.R_below (rR_ HO_4.out) hb) (bb_ BK136.out hb) (below_step (bl1_ HB.out GE136.out) hb) ?_; clear hb HO_4 BK136 HB; intro HO_4 BK136 HB) | ((with_reducible refine gate_dst (N := 6) rfl ?_); refine bx_ (N := 6) (cs := #[.int .i64 0, .string (⟨#[]⟩ : ByteArray), .int .i64 0, .int .i64 0]) (t := 46) ?_; intro gb144 hg w32 hbox hb; refine cut8_ (Kd.R_below (Kd.R_elderB (rR_ HO_4.out) gb144 (Nat.le_of_eq hg.symm)) hb) (bb_ BK136.out hb) (below_step (bl1_ HB.out GE136.out) hb) (hbox) (bz_ (w := w) hg (bl1_ HB.out GE136.out)) (bz_ (w := w) hg (bl1_ HB.out GE136.out)) (nl_ hg BK136.out) (ng_ hg BK136.out) ?_; clear HO_4 BK136 HB; intro HO_4 BK136 HB BK144 GW144 GE144 NB136_144 NB144_136; clear hb hbox hg) | ((with_reducible refine gate_dst (N := 8) rfl ?_); refine bx_ (N := 8) (cs := #[.int .i64 0, .int .i64 0]) (t := 26) ?_; intro gb145 hg w33 hbox hb; refine cut11_ (Kd.R_below (rR_ HO_4.out) hb) (bb_ BK136.out hb) (bb_ BK144.out hb) (below_step (bl2_ HB.out GE136.out GE144.out) hb) (hbox) (bz_ (w := w) hg (bl2_ HB.out GE136.out GE144.out)) (bz_ (w := w) hg (bl2_ HB.out GE136.out GE144.out)) (nl_ hg BK136.out) (ng_ hg BK136.out) (nl_ hg BK144.out) (ng_ hg BK144.out) ?_; clear HO_4 BK136 BK144 HB; intro HO_4 BK136 BK144 HB BK145 GW145 GE145 NB136_145 NB145_136 NB144_145 NB145_144; clear hb hbox hg; have hnb34 := NB144_136.out; have hnc34 := NB136_144.out; have hnb35 := NB144_145.out; have hnc35 := NB145_144.out; obtain ⟨hcz36_0, hcz36_1, hcz36_2, hcz36_3, hfz36_0, hfz36_1, hfz36_2, hfz36_3⟩ := cq4_ BK144.out; have hnb37 := NB145_136.out; have hnc37 := NB136_145.out; obtain ⟨hcz38_0, hcz38_1, hfz38_0, hfz38_1⟩ := cq2_ BK145.out))
   have n0_ : Aside0 (Kd.R k46 46 ((((((w33.setCell ⟨gb144, 0, none⟩ (.int .i64 t137)).setCell ⟨gb144, 1, none⟩ (.string t138)).setCell ⟨gb144, 2, none⟩ (.int .i64 t139)).setCell ⟨gb144, 3, none⟩ (.int .i64 t140)).setCell ⟨gb145, 0, none⟩ (.int .i64 t142)).setCell ⟨gb145, 1, none⟩ (.int .i64 t143)) w.heap.size (fun k_ => k_ ≠ gb144) u4 x4_1) := ⟨rR_ (Kd.R_mono (rf2_ gb145 (Kd.R_far (p := ⟨gb144, 3, none⟩) (Kd.R_far (p := ⟨gb144, 2, none⟩) (Kd.R_far (p := ⟨gb144, 1, none⟩) (Kd.R_far (p := ⟨gb144, 0, none⟩) (Kd.R_types (Kd.R_mono HO_4.out (fun k_ hk => (⟨hk, hk.2⟩ : _ ∧ k_ ≠ gb144))) BK145.out (by decide)) (fun _ hk => hk.1.2) (.int .i64 t137)) (fun _ hk => hk.1.2) (.string t138)) (fun _ hk => hk.1.2) (.int .i64 t139)) (fun _ hk => hk.1.2) (.int .i64 t140))) (fun _ hk => hk.1.1.2))⟩; have n1_ : Aside0 (((((((w33.setCell ⟨gb144, 0, none⟩ (.int .i64 t137)).setCell ⟨gb144, 1, none⟩ (.string t138)).setCell ⟨gb144, 2, none⟩ (.int .i64 t139)).setCell ⟨gb144, 3, none⟩ (.int .i64 t140)).setCell ⟨gb145, 0, none⟩ (.int .i64 t142)).setCell ⟨gb145, 1, none⟩ (.int .i64 t143)).heap[gb136]? = some (.cells #[.int .i64 x137000_1, .int .i64 x137001_1] 26 (0, 0))) := ⟨far2_ (far4_ (bk_ BK136.out) NB136_144.out) NB136_145.out⟩; have n2_ : Aside0 (((((((w33.setCell ⟨gb144, 0, none⟩ (.int .i64 t137)).setCell ⟨gb144, 1, none⟩ (.string t138)).setCell ⟨gb144, 2, none⟩ (.int .i64 t139)).setCell ⟨gb144, 3, none⟩ (.int .i64 t140)).setCell ⟨gb145, 0, none⟩ (.int .i64 t142)).setCell ⟨gb145, 1, none⟩ (.int .i64 t143)).heap[gb144]? = some (.cells #[.int .i64 t137, .string t138, .int .i64 t139, .int .i64 t140] 46 (0, 0))) := ⟨far2_ (put4_ (bk_ BK144.out)) NB144_145.out⟩; have n3_ : Aside0 (((((((w33.setCell ⟨gb144, 0, none⟩ (.int .i64 t137)).setCell ⟨gb144, 1, none⟩ (.string t138)).setCell ⟨gb144, 2, none⟩ (.int .i64 t139)).setCell ⟨gb144, 3, none⟩ (.int .i64 t140)).setCell ⟨gb145, 0, none⟩ (.int .i64 t142)).setCell ⟨gb145, 1, none⟩ (.int .i64 t143)).heap[gb145]? = some (.cells #[.int .i64 t142, .int .i64 t143] 26 (0, 0))) := ⟨by refine blk_put (cs := #[.int .i64 t142, .int .i64 0]) ?_ 1 _ rfl; refine blk_put (cs := #[.int .i64 0, .int .i64 0]) ?_ 0 _ rfl; exact far4_ (bk_ BK145.out) NB145_144.out⟩; have n4_ : Aside0 (Below w.heap.size w ((((((w33.setCell ⟨gb144, 0, none⟩ (.int .i64 t137)).setCell ⟨gb144, 1, none⟩ (.string t138)).setCell ⟨gb144, 2, none⟩ (.int .i64 t139)).setCell ⟨gb144, 3, none⟩ (.int .i64 t140)).setCell ⟨gb145, 0, none⟩ (.int .i64 t142)).setCell ⟨gb145, 1, none⟩ (.int .i64 t143))) := ⟨bl3_ HB.out GE136.out GE144.out GE145.out⟩; (try clear HO_4); (try clear BK136); (try clear BK144); (try clear BK145); (try clear HB); generalize ((((((w33.setCell ⟨gb144, 0, none⟩ (.int .i64 t137)).setCell ⟨gb144, 1, none⟩ (.string t138)).setCell ⟨gb144, 2, none⟩ (.int .i64 t139)).setCell ⟨gb144, 3, none⟩ (.int .i64 t140)).setCell ⟨gb145, 0, none⟩ (.int .i64 t142)).setCell ⟨gb145, 1, none⟩ (.int .i64 t143)) = w39 at n0_ n1_ n2_ n3_ n4_ ⊢; have HO_4 := n0_; have BK136 := n1_; have BK144 := n2_; have BK145 := n3_; have HB := n4_; clear n0_ n1_ n2_ n3_ n4_; refine cut5_ (Kd.R_drew HO_4.out) (blk_drew BK136.out) (blk_drew BK144.out) (blk_drew BK145.out) (below_drew1 HB.out) ?_; clear HO_4 BK136 BK144 BK145 HB; intro HO_4 BK136 BK144 BK145 HB; refine start_ (n := 3) (S := fun w' => w'.cell? ⟨gb145, 0, none⟩ = some (.int .i64 t142) ∧ w'.cell? ⟨gb145, 1, none⟩ = some (.int .i64 t143)) (ds := []) #[false, false, false] (by kernel_rfl) rfl rfl ⟨ce_ BK145.out 0, ce_ BK145.out 1⟩ (fun hHeld => ?_); generalize w39.drew = w40 at HO_4 BK136 BK144 BK145 HB hHeld ⊢; refine pr_ (i := 1) (N := some 2) #[false, true, false] (by kernel_rfl) ?_; refine take_ (i := 0) (N := some 23) (v := ?_) (a' := ?_) #[true, true, false] rfl rfl (by kernel_rfl) (fun _ _ _ h => h) (Or.inl ⟨by rfl, ?_⟩) hHeld ?_ ?_; rotate_left
   ·
    rintro w' ⟨s0, s1⟩; go_simp
    with_reducible rfl
   rotate_left
   ·
    simp only [Act.put, List.setIfInBounds_toArray, List.set_cons_zero, List.set_cons_succ, i64_w, i32_w]
    rfl
   refine one_ (i := 2) (N := none) #[true, true, true] rfl rfl (by kernel_rfl) (by decide) (fun K hK => ?_); have hs41 : w40.cell? ⟨gb136, 0, none⟩ = some (.int .i64 x137000_1) := (blk_cell BK136.out 0).trans rfl; have hfs41 := blk_frozen BK136.out 0; have hns41_1 := NB144_136.out; have hns41_2 := NB145_136.out; have hms41_1 := NB136_144.out; have hms41_2 := NB136_145.out; have hs42 : w40.cell? ⟨gb136, 1, none⟩ = some (.int .i64 x137001_1) := (blk_cell BK136.out 1).trans rfl; have hfs42 := blk_frozen BK136.out 1; have hns42_1 := NB144_136.out; have hns42_2 := NB145_136.out; have hms42_1 := NB136_144.out; have hms42_2 := NB136_145.out; refine sk_ ?_; refine hK.out _ _ ⟨(cf2_ gb136 NB145_136.out hHeld.1), (cf2_ gb136 NB145_136.out hHeld.2)⟩ (fun hHeld => ?_); clear hK K; refine done_ (by kernel_rfl) ?_
   try go_wp2
   iterate 3 (try (go_step3; (try go_wp2)))
   (try rw [Exit.noGoto_ret]); refine bodyPost_ret (results_tc rfl _ _ gb136 26 #[.int .i64 t142, .int .i64 t143] (0, 0) _ rfl (by exact put2_ (bk_ BK136.out)) Tryd.underlying26 rfl (by kernel_rfl)) rfl ?_; exact ⟨_, er_, ni_, bl3_ HB.out GE136.out GE144.out GE145.out⟩
  have c7b0 := beq_iff_eq.mpr c7; have c7b1 := bne_eq_false_iff_eq.mpr c7; clear c7; replace H := gp_ H; obtain ⟨c8, H⟩ := H; have LMc8 := Aside0.mk c8; clear c8; obtain ⟨y146, hy146⟩ : ∃ y_ : List (S46), y_ = (x4_1 ++ [(⟨t137, t138, t139, t140⟩ : S46)]) := ⟨_, rfl⟩; replace H : (if t137 = 5 then (some (y146, 0, 0)) else (lexer_Lex.l0 k1 a0 y146 t141)) = some (r1, r2, r3) := by first | (rw [hy146]; with_reducible exact H) | (have H2_ := (Option.bind_some _ _).symm.trans H; rw [hy146]; with_reducible exact H2_) | (have H2_ := (Option.bind_some _ _).symm.trans H; with_reducible exact H2_) | with_reducible exact H | (rw [hy146]; exact H) | exact H
  have Ny146 := Aside0.mk hy146; clear hy146; replace H := (sp_ H).symm; obtain ⟨c9, H⟩ | ⟨c9, H⟩ := H
  ·
   have c9b0 := beq_eq_false_iff_ne.mpr c9; have c9b1 := bne_iff_ne.mpr c9; have H' := Aside0.mk H; clear H
   go_wp2_with (first | ((with_reducible refine gate_callee (f := 55) rfl ?_); refine gk_ (some 16) Tryd.func55 (lexer_next.calls k1 a0 x5_1 t137 t138 t139 t140 t141 t142 t143 _ A6.out) ?_; rintro e w21 ⟨rfl, hb⟩; refine ⟨_, rfl, ?_⟩; refine cut3_ (Kd.R_below (rR_ HO_4.out) hb) (bb_ BK136.out hb) (below_step (bl1_ HB.out GE136.out) hb) ?_; clear hb HO_4 BK136 HB; intro HO_4 BK136 HB) | ((with_reducible refine gate_dst (N := 6) rfl ?_); refine bx_ (N := 6) (cs := #[.int .i64 0, .string (⟨#[]⟩ : ByteArray), .int .i64 0, .int .i64 0]) (t := 46) ?_; intro gb144 hg w22 hbox hb; refine cut8_ (Kd.R_below (Kd.R_elderB (rR_ HO_4.out) gb144 (Nat.le_of_eq hg.symm)) hb) (bb_ BK136.out hb) (below_step (bl1_ HB.out GE136.out) hb) (hbox) (bz_ (w := w) hg (bl1_ HB.out GE136.out)) (bz_ (w := w) hg (bl1_ HB.out GE136.out)) (nl_ hg BK136.out) (ng_ hg BK136.out) ?_; clear HO_4 BK136 HB; intro HO_4 BK136 HB BK144 GW144 GE144 NB136_144 NB144_136; clear hb hbox hg) | ((with_reducible refine gate_dst (N := 8) rfl ?_); refine bx_ (N := 8) (cs := #[.int .i64 0, .int .i64 0]) (t := 26) ?_; intro gb145 hg w23 hbox hb; refine cut11_ (Kd.R_below (rR_ HO_4.out) hb) (bb_ BK136.out hb) (bb_ BK144.out hb) (below_step (bl2_ HB.out GE136.out GE144.out) hb) (hbox) (bz_ (w := w) hg (bl2_ HB.out GE136.out GE144.out)) (bz_ (w := w) hg (bl2_ HB.out GE136.out GE144.out)) (nl_ hg BK136.out) (ng_ hg BK136.out) (nl_ hg BK144.out) (ng_ hg BK144.out) ?_; clear HO_4 BK136 BK144 HB; intro HO_4 BK136 BK144 HB BK145 GW145 GE145 NB136_145 NB145_136 NB144_145 NB145_144; clear hb hbox hg; have hnb24 := NB144_136.out; have hnc24 := NB136_144.out; have hnb25 := NB144_145.out; have hnc25 := NB145_144.out; obtain ⟨hcz26_0, hcz26_1, hcz26_2, hcz26_3, hfz26_0, hfz26_1, hfz26_2, hfz26_3⟩ := cq4_ BK144.out; have hnb27 := NB145_136.out; have hnc27 := NB136_145.out; obtain ⟨hcz28_0, hcz28_1, hfz28_0, hfz28_1⟩ := cq2_ BK145.out) | ((with_reducible refine gate_builtin (b := .append) (xs := #[.tmp 24, .tmp 26]) rfl ?_); at_builtin; refine Kd.R_append k46 (w0 := w) w.heap.size rfl (.tmp 24) (.tmp 26) 31 46 (.agg #[(.int .i64 0), (.string ⟨#[]⟩), (.int .i64 0), (.int .i64 0)]) 40 rfl Tryd.underlying31 info46 rfl (by decide) (by omega) u4 x4_1 (⟨t137, t138, t139, t140⟩ : S46) [.int .i64 t137, .string t138, .int .i64 t139, .int .i64 t140] (fun k_ => k_ ≠ gb144) (fun _ => False) rfl (by first | (go_simp; done) | (go_simp; rfl)) ?aP (fun _ hk => hk.elim) ?aF ?aO ?aB ?aS ?aL ?_; (case aP => exact k46_mkM _ _ _ (⟨t137, t138, t139, t140⟩ : S46)); (case aB => exact (bl3_ HB.out GE136.out GE144.out GE145.out)); (case aF => exact (fun k_ hk => Kd.freshB (g := gb144) (o := .cells #[.int .i64 t137, .string t138, .int .i64 t139, .int .i64 t140] 46 (0, 0)) (by exact far2_ (put4_ (bk_ BK144.out)) NB144_145.out) k_ hk)); (case aO => exact (rR_ (Kd.R_mono (rf2_ gb145 (Kd.R_far (p := ⟨gb144, 3, none⟩) (Kd.R_far (p := ⟨gb144, 2, none⟩) (Kd.R_far (p := ⟨gb144, 1, none⟩) (Kd.R_far (p := ⟨gb144, 0, none⟩) (Kd.R_types (Kd.R_mono HO_4.out (fun k_ hk => (⟨hk, hk.2⟩ : _ ∧ k_ ≠ gb144))) BK145.out (by decide)) (fun _ hk => hk.1.2) (.int .i64 t137)) (fun _ hk => hk.1.2) (.string t138)) (fun _ hk => hk.1.2) (.int .i64 t139)) (fun _ hk => hk.1.2) (.int .i64 t140))) (fun _ hk => hk.1.1.2)))); (case aS => exact (below_size (bl3_ HB.out GE136.out GE144.out GE145.out))); (case aL => have := LMc8.out; omega); intro v147 w29 ho hb hg hat; rw [← Ny146.out] at ho; refine cut5_ (blk_grown (g := gb136) (o := .cells #[.int .i64 x137000_1, .int .i64 x137001_1] 26 (0, 0)) (by exact far2_ (far4_ (bk_ BK136.out) NB136_144.out) NB136_145.out) hg (Kd.R_ne HO_4.out BK136.out (by decide))) (blk_grown (g := gb144) (o := .cells #[.int .i64 t137, .string t138, .int .i64 t139, .int .i64 t140] 46 (0, 0)) (by exact far2_ (put4_ (bk_ BK144.out)) NB144_145.out) hg (Kd.R_away HO_4.out (fun _ hk => hk.2))) (blk_grown (g := gb145) (o := .cells #[.int .i64 t142, .int .i64 t143] 26 (0, 0)) (by refine blk_put (cs := #[.int .i64 t142, .int .i64 0]) ?_ 1 _ rfl; refine blk_put (cs := #[.int .i64 0, .int .i64 0]) ?_ 0 _ rfl; exact far4_ (bk_ BK145.out) NB145_144.out) hg (Kd.R_ne HO_4.out BK145.out (by decide))) (hb) (ho) ?_; clear BK136 BK144 BK145 HB HO_4; intro BK136 BK144 BK145 HB HO148; clear ho hb hg hat; obtain ⟨hcz30_0, hcz30_1, hcz30_2, hcz30_3, hfz30_0, hfz30_1, hfz30_2, hfz30_3⟩ := cq4_ BK144.out))
   iterate 3 (try (go_step3; (try go_wp2_with (first | ((with_reducible refine gate_callee (f := 55) rfl ?_); refine gk_ (some 16) Tryd.func55 (lexer_next.calls k1 a0 x5_1 t137 t138 t139 t140 t141 t142 t143 _ A6.out) ?_; rintro e w21 ⟨rfl, hb⟩; refine ⟨_, rfl, ?_⟩; refine cut3_ (Kd.R_below (rR_ HO_4.out) hb) (bb_ BK136.out hb) (below_step (bl1_ HB.out GE136.out) hb) ?_; clear hb HO_4 BK136 HB; intro HO_4 BK136 HB) | ((with_reducible refine gate_dst (N := 6) rfl ?_); refine bx_ (N := 6) (cs := #[.int .i64 0, .string (⟨#[]⟩ : ByteArray), .int .i64 0, .int .i64 0]) (t := 46) ?_; intro gb144 hg w22 hbox hb; refine cut8_ (Kd.R_below (Kd.R_elderB (rR_ HO_4.out) gb144 (Nat.le_of_eq hg.symm)) hb) (bb_ BK136.out hb) (below_step (bl1_ HB.out GE136.out) hb) (hbox) (bz_ (w := w) hg (bl1_ HB.out GE136.out)) (bz_ (w := w) hg (bl1_ HB.out GE136.out)) (nl_ hg BK136.out) (ng_ hg BK136.out) ?_; clear HO_4 BK136 HB; intro HO_4 BK136 HB BK144 GW144 GE144 NB136_144 NB144_136; clear hb hbox hg) | ((with_reducible refine gate_dst (N := 8) rfl ?_); refine bx_ (N := 8) (cs := #[.int .i64 0, .int .i64 0]) (t := 26) ?_; intro gb145 hg w23 hbox hb; refine cut11_ (Kd.R_below (rR_ HO_4.out) hb) (bb_ BK136.out hb) (bb_ BK144.out hb) (below_step (bl2_ HB.out GE136.out GE144.out) hb) (hbox) (bz_ (w := w) hg (bl2_ HB.out GE136.out GE144.out)) (bz_ (w := w) hg (bl2_ HB.out GE136.out GE144.out)) (nl_ hg BK136.out) (ng_ hg BK136.out) (nl_ hg BK144.out) (ng_ hg BK144.out) ?_; clear HO_4 BK136 BK144 HB; intro HO_4 BK136 BK144 HB BK145 GW145 GE145 NB136_145 NB145_136 NB144_145 NB145_144; clear hb hbox hg; have hnb24 := NB144_136.out; have hnc24 := NB136_144.out; have hnb25 := NB144_145.out; have hnc25 := NB145_144.out; obtain ⟨hcz26_0, hcz26_1, hcz26_2, hcz26_3, hfz26_0, hfz26_1, hfz26_2, hfz26_3⟩ := cq4_ BK144.out; have hnb27 := NB145_136.out; have hnc27 := NB136_145.out; obtain ⟨hcz28_0, hcz28_1, hfz28_0, hfz28_1⟩ := cq2_ BK145.out) | ((with_reducible refine gate_builtin (b := .append) (xs := #[.tmp 24, .tmp 26]) rfl ?_); at_builtin; refine Kd.R_append k46 (w0 := w) w.heap.size rfl (.tmp 24) (.tmp 26) 31 46 (.agg #[(.int .i64 0), (.string ⟨#[]⟩), (.int .i64 0), (.int .i64 0)]) 40 rfl Tryd.underlying31 info46 rfl (by decide) (by omega) u4 x4_1 (⟨t137, t138, t139, t140⟩ : S46) [.int .i64 t137, .string t138, .int .i64 t139, .int .i64 t140] (fun k_ => k_ ≠ gb144) (fun _ => False) rfl (by first | (go_simp; done) | (go_simp; rfl)) ?aP (fun _ hk => hk.elim) ?aF ?aO ?aB ?aS ?aL ?_; (case aP => exact k46_mkM _ _ _ (⟨t137, t138, t139, t140⟩ : S46)); (case aB => exact (bl3_ HB.out GE136.out GE144.out GE145.out)); (case aF => exact (fun k_ hk => Kd.freshB (g := gb144) (o := .cells #[.int .i64 t137, .string t138, .int .i64 t139, .int .i64 t140] 46 (0, 0)) (by exact far2_ (put4_ (bk_ BK144.out)) NB144_145.out) k_ hk)); (case aO => exact (rR_ (Kd.R_mono (rf2_ gb145 (Kd.R_far (p := ⟨gb144, 3, none⟩) (Kd.R_far (p := ⟨gb144, 2, none⟩) (Kd.R_far (p := ⟨gb144, 1, none⟩) (Kd.R_far (p := ⟨gb144, 0, none⟩) (Kd.R_types (Kd.R_mono HO_4.out (fun k_ hk => (⟨hk, hk.2⟩ : _ ∧ k_ ≠ gb144))) BK145.out (by decide)) (fun _ hk => hk.1.2) (.int .i64 t137)) (fun _ hk => hk.1.2) (.string t138)) (fun _ hk => hk.1.2) (.int .i64 t139)) (fun _ hk => hk.1.2) (.int .i64 t140))) (fun _ hk => hk.1.1.2)))); (case aS => exact (below_size (bl3_ HB.out GE136.out GE144.out GE145.out))); (case aL => have := LMc8.out; omega); intro v147 w29 ho hb hg hat; rw [← Ny146.out] at ho; refine cut5_ (blk_grown (g := gb136) (o := .cells #[.int .i64 x137000_1, .int .i64 x137001_1] 26 (0, 0)) (by exact far2_ (far4_ (bk_ BK136.out) NB136_144.out) NB136_145.out) hg (Kd.R_ne HO_4.out BK136.out (by decide))) (blk_grown (g := gb144) (o := .cells #[.int .i64 t137, .string t138, .int .i64 t139, .int .i64 t140] 46 (0, 0)) (by exact far2_ (put4_ (bk_ BK144.out)) NB144_145.out) hg (Kd.R_away HO_4.out (fun _ hk => hk.2))) (blk_grown (g := gb145) (o := .cells #[.int .i64 t142, .int .i64 t143] 26 (0, 0)) (by refine blk_put (cs := #[.int .i64 t142, .int .i64 0]) ?_ 1 _ rfl; refine blk_put (cs := #[.int .i64 0, .int .i64 0]) ?_ 0 _ rfl; exact far4_ (bk_ BK145.out) NB145_144.out) hg (Kd.R_ne HO_4.out BK145.out (by decide))) (hb) (ho) ?_; clear BK136 BK144 BK145 HB HO_4; intro BK136 BK144 BK145 HB HO148; clear ho hb hg hat; obtain ⟨hcz30_0, hcz30_1, hcz30_2, hcz30_3, hfz30_0, hfz30_1, hfz30_2, hfz30_3⟩ := cq4_ BK144.out)))))
   go_roundg k1
   case measure => have := HK1.out; omega
   case rel => exact ⟨(y146), (t141), (x137000_1), (x137001_1), sr_, H', ⟨om_ HK1.out⟩, ⟨rR_ (Kd.R_mono HO148.out (fun _ hk => trivial))⟩, ⟨bk_ BK136.out⟩, ⟨bl3_ HB.out GE136.out GE144.out GE145.out⟩⟩
  have c9b0 := beq_iff_eq.mpr c9; have c9b1 := bne_eq_false_iff_eq.mpr c9; clear c9; simp only [Option.some.injEq, Prod.mk.injEq] at H; obtain ⟨rfl, rfl, rfl⟩ := H
  go_wp2_with (first | ((with_reducible refine gate_callee (f := 55) rfl ?_); refine gk_ (some 16) Tryd.func55 (lexer_next.calls k1 a0 x5_1 t137 t138 t139 t140 t141 t142 t143 _ A6.out) ?_; rintro e w10 ⟨rfl, hb⟩; refine ⟨_, rfl, ?_⟩; refine cut3_ (Kd.R_below (rR_ HO_4.out) hb) (bb_ BK136.out hb) (below_step (bl1_ HB.out GE136.out) hb) ?_; clear hb HO_4 BK136 HB; intro HO_4 BK136 HB) | ((with_reducible refine gate_dst (N := 6) rfl ?_); refine bx_ (N := 6) (cs := #[.int .i64 0, .string (⟨#[]⟩ : ByteArray), .int .i64 0, .int .i64 0]) (t := 46) ?_; intro gb144 hg w11 hbox hb; refine cut8_ (Kd.R_below (Kd.R_elderB (rR_ HO_4.out) gb144 (Nat.le_of_eq hg.symm)) hb) (bb_ BK136.out hb) (below_step (bl1_ HB.out GE136.out) hb) (hbox) (bz_ (w := w) hg (bl1_ HB.out GE136.out)) (bz_ (w := w) hg (bl1_ HB.out GE136.out)) (nl_ hg BK136.out) (ng_ hg BK136.out) ?_; clear HO_4 BK136 HB; intro HO_4 BK136 HB BK144 GW144 GE144 NB136_144 NB144_136; clear hb hbox hg) | ((with_reducible refine gate_dst (N := 8) rfl ?_); refine bx_ (N := 8) (cs := #[.int .i64 0, .int .i64 0]) (t := 26) ?_; intro gb145 hg w12 hbox hb; refine cut11_ (Kd.R_below (rR_ HO_4.out) hb) (bb_ BK136.out hb) (bb_ BK144.out hb) (below_step (bl2_ HB.out GE136.out GE144.out) hb) (hbox) (bz_ (w := w) hg (bl2_ HB.out GE136.out GE144.out)) (bz_ (w := w) hg (bl2_ HB.out GE136.out GE144.out)) (nl_ hg BK136.out) (ng_ hg BK136.out) (nl_ hg BK144.out) (ng_ hg BK144.out) ?_; clear HO_4 BK136 BK144 HB; intro HO_4 BK136 BK144 HB BK145 GW145 GE145 NB136_145 NB145_136 NB144_145 NB145_144; clear hb hbox hg; have hnb13 := NB144_136.out; have hnc13 := NB136_144.out; have hnb14 := NB144_145.out; have hnc14 := NB145_144.out; obtain ⟨hcz15_0, hcz15_1, hcz15_2, hcz15_3, hfz15_0, hfz15_1, hfz15_2, hfz15_3⟩ := cq4_ BK144.out; have hnb16 := NB145_136.out; have hnc16 := NB136_145.out; obtain ⟨hcz17_0, hcz17_1, hfz17_0, hfz17_1⟩ := cq2_ BK145.out) | ((with_reducible refine gate_builtin (b := .append) (xs := #[.tmp 24, .tmp 26]) rfl ?_); at_builtin; refine Kd.R_append k46 (w0 := w) w.heap.size rfl (.tmp 24) (.tmp 26) 31 46 (.agg #[(.int .i64 0), (.string ⟨#[]⟩), (.int .i64 0), (.int .i64 0)]) 40 rfl Tryd.underlying31 info46 rfl (by decide) (by omega) u4 x4_1 (⟨t137, t138, t139, t140⟩ : S46) [.int .i64 t137, .string t138, .int .i64 t139, .int .i64 t140] (fun k_ => k_ ≠ gb144) (fun _ => False) rfl (by first | (go_simp; done) | (go_simp; rfl)) ?aP (fun _ hk => hk.elim) ?aF ?aO ?aB ?aS ?aL ?_; (case aP => exact k46_mkM _ _ _ (⟨t137, t138, t139, t140⟩ : S46)); (case aB => exact (bl3_ HB.out GE136.out GE144.out GE145.out)); (case aF => exact (fun k_ hk => Kd.freshB (g := gb144) (o := .cells #[.int .i64 t137, .string t138, .int .i64 t139, .int .i64 t140] 46 (0, 0)) (by exact far2_ (put4_ (bk_ BK144.out)) NB144_145.out) k_ hk)); (case aO => exact (rR_ (Kd.R_mono (rf2_ gb145 (Kd.R_far (p := ⟨gb144, 3, none⟩) (Kd.R_far (p := ⟨gb144, 2, none⟩) (Kd.R_far (p := ⟨gb144, 1, none⟩) (Kd.R_far (p := ⟨gb144, 0, none⟩) (Kd.R_types (Kd.R_mono HO_4.out (fun k_ hk => (⟨hk, hk.2⟩ : _ ∧ k_ ≠ gb144))) BK145.out (by decide)) (fun _ hk => hk.1.2) (.int .i64 t137)) (fun _ hk => hk.1.2) (.string t138)) (fun _ hk => hk.1.2) (.int .i64 t139)) (fun _ hk => hk.1.2) (.int .i64 t140))) (fun _ hk => hk.1.1.2)))); (case aS => exact (below_size (bl3_ HB.out GE136.out GE144.out GE145.out))); (case aL => have := LMc8.out; omega); intro v147 w18 ho hb hg hat; rw [← Ny146.out] at ho; refine cut5_ (blk_grown (g := gb136) (o := .cells #[.int .i64 x137000_1, .int .i64 x137001_1] 26 (0, 0)) (by exact far2_ (far4_ (bk_ BK136.out) NB136_144.out) NB136_145.out) hg (Kd.R_ne HO_4.out BK136.out (by decide))) (blk_grown (g := gb144) (o := .cells #[.int .i64 t137, .string t138, .int .i64 t139, .int .i64 t140] 46 (0, 0)) (by exact far2_ (put4_ (bk_ BK144.out)) NB144_145.out) hg (Kd.R_away HO_4.out (fun _ hk => hk.2))) (blk_grown (g := gb145) (o := .cells #[.int .i64 t142, .int .i64 t143] 26 (0, 0)) (by refine blk_put (cs := #[.int .i64 t142, .int .i64 0]) ?_ 1 _ rfl; refine blk_put (cs := #[.int .i64 0, .int .i64 0]) ?_ 0 _ rfl; exact far4_ (bk_ BK145.out) NB145_144.out) hg (Kd.R_ne HO_4.out BK145.out (by decide))) (hb) (ho) ?_; clear BK136 BK144 BK145 HB HO_4; intro BK136 BK144 BK145 HB HO148; clear ho hb hg hat; obtain ⟨hcz19_0, hcz19_1, hcz19_2, hcz19_3, hfz19_0, hfz19_1, hfz19_2, hfz19_3⟩ := cq4_ BK144.out; obtain ⟨hcz20_0, hcz20_1, hfz20_0, hfz20_1⟩ := cq2_ BK136.out))
  iterate 3 (try (go_step3; (try go_wp2_with (first | ((with_reducible refine gate_callee (f := 55) rfl ?_); refine gk_ (some 16) Tryd.func55 (lexer_next.calls k1 a0 x5_1 t137 t138 t139 t140 t141 t142 t143 _ A6.out) ?_; rintro e w10 ⟨rfl, hb⟩; refine ⟨_, rfl, ?_⟩; refine cut3_ (Kd.R_below (rR_ HO_4.out) hb) (bb_ BK136.out hb) (below_step (bl1_ HB.out GE136.out) hb) ?_; clear hb HO_4 BK136 HB; intro HO_4 BK136 HB) | ((with_reducible refine gate_dst (N := 6) rfl ?_); refine bx_ (N := 6) (cs := #[.int .i64 0, .string (⟨#[]⟩ : ByteArray), .int .i64 0, .int .i64 0]) (t := 46) ?_; intro gb144 hg w11 hbox hb; refine cut8_ (Kd.R_below (Kd.R_elderB (rR_ HO_4.out) gb144 (Nat.le_of_eq hg.symm)) hb) (bb_ BK136.out hb) (below_step (bl1_ HB.out GE136.out) hb) (hbox) (bz_ (w := w) hg (bl1_ HB.out GE136.out)) (bz_ (w := w) hg (bl1_ HB.out GE136.out)) (nl_ hg BK136.out) (ng_ hg BK136.out) ?_; clear HO_4 BK136 HB; intro HO_4 BK136 HB BK144 GW144 GE144 NB136_144 NB144_136; clear hb hbox hg) | ((with_reducible refine gate_dst (N := 8) rfl ?_); refine bx_ (N := 8) (cs := #[.int .i64 0, .int .i64 0]) (t := 26) ?_; intro gb145 hg w12 hbox hb; refine cut11_ (Kd.R_below (rR_ HO_4.out) hb) (bb_ BK136.out hb) (bb_ BK144.out hb) (below_step (bl2_ HB.out GE136.out GE144.out) hb) (hbox) (bz_ (w := w) hg (bl2_ HB.out GE136.out GE144.out)) (bz_ (w := w) hg (bl2_ HB.out GE136.out GE144.out)) (nl_ hg BK136.out) (ng_ hg BK136.out) (nl_ hg BK144.out) (ng_ hg BK144.out) ?_; clear HO_4 BK136 BK144 HB; intro HO_4 BK136 BK144 HB BK145 GW145 GE145 NB136_145 NB145_136 NB144_145 NB145_144; clear hb hbox hg; have hnb13 := NB144_136.out; have hnc13 := NB136_144.out; have hnb14 := NB144_145.out; have hnc14 := NB145_144.out; obtain ⟨hcz15_0, hcz15_1, hcz15_2, hcz15_3, hfz15_0, hfz15_1, hfz15_2, hfz15_3⟩ := cq4_ BK144.out; have hnb16 := NB145_136.out; have hnc16 := NB136_145.out; obtain ⟨hcz17_0, hcz17_1, hfz17_0, hfz17_1⟩ := cq2_ BK145.out) | ((with_reducible refine gate_builtin (b := .append) (xs := #[.tmp 24, .tmp 26]) rfl ?_); at_builtin; refine Kd.R_append k46 (w0 := w) w.heap.size rfl (.tmp 24) (.tmp 26) 31 46 (.agg #[(.int .i64 0), (.string ⟨#[]⟩), (.int .i64 0), (.int .i64 0)]) 40 rfl Tryd.underlying31 info46 rfl (by decide) (by omega) u4 x4_1 (⟨t137, t138, t139, t140⟩ : S46) [.int .i64 t137, .string t138, .int .i64 t139, .int .i64 t140] (fun k_ => k_ ≠ gb144) (fun _ => False) rfl (by first | (go_simp; done) | (go_simp; rfl)) ?aP (fun _ hk => hk.elim) ?aF ?aO ?aB ?aS ?aL ?_; (case aP => exact k46_mkM _ _ _ (⟨t137, t138, t139, t140⟩ : S46)); (case aB => exact (bl3_ HB.out GE136.out GE144.out GE145.out)); (case aF => exact (fun k_ hk => Kd.freshB (g := gb144) (o := .cells #[.int .i64 t137, .string t138, .int .i64 t139, .int .i64 t140] 46 (0, 0)) (by exact far2_ (put4_ (bk_ BK144.out)) NB144_145.out) k_ hk)); (case aO => exact (rR_ (Kd.R_mono (rf2_ gb145 (Kd.R_far (p := ⟨gb144, 3, none⟩) (Kd.R_far (p := ⟨gb144, 2, none⟩) (Kd.R_far (p := ⟨gb144, 1, none⟩) (Kd.R_far (p := ⟨gb144, 0, none⟩) (Kd.R_types (Kd.R_mono HO_4.out (fun k_ hk => (⟨hk, hk.2⟩ : _ ∧ k_ ≠ gb144))) BK145.out (by decide)) (fun _ hk => hk.1.2) (.int .i64 t137)) (fun _ hk => hk.1.2) (.string t138)) (fun _ hk => hk.1.2) (.int .i64 t139)) (fun _ hk => hk.1.2) (.int .i64 t140))) (fun _ hk => hk.1.1.2)))); (case aS => exact (below_size (bl3_ HB.out GE136.out GE144.out GE145.out))); (case aL => have := LMc8.out; omega); intro v147 w18 ho hb hg hat; rw [← Ny146.out] at ho; refine cut5_ (blk_grown (g := gb136) (o := .cells #[.int .i64 x137000_1, .int .i64 x137001_1] 26 (0, 0)) (by exact far2_ (far4_ (bk_ BK136.out) NB136_144.out) NB136_145.out) hg (Kd.R_ne HO_4.out BK136.out (by decide))) (blk_grown (g := gb144) (o := .cells #[.int .i64 t137, .string t138, .int .i64 t139, .int .i64 t140] 46 (0, 0)) (by exact far2_ (put4_ (bk_ BK144.out)) NB144_145.out) hg (Kd.R_away HO_4.out (fun _ hk => hk.2))) (blk_grown (g := gb145) (o := .cells #[.int .i64 t142, .int .i64 t143] 26 (0, 0)) (by refine blk_put (cs := #[.int .i64 t142, .int .i64 0]) ?_ 1 _ rfl; refine blk_put (cs := #[.int .i64 0, .int .i64 0]) ?_ 0 _ rfl; exact far4_ (bk_ BK145.out) NB145_144.out) hg (Kd.R_ne HO_4.out BK145.out (by decide))) (hb) (ho) ?_; clear BK136 BK144 BK145 HB HO_4; intro BK136 BK144 BK145 HB HO148; clear ho hb hg hat; obtain ⟨hcz19_0, hcz19_1, hcz19_2, hcz19_3, hfz19_0, hfz19_1, hfz19_2, hfz19_3⟩ := cq4_ BK144.out; obtain ⟨hcz20_0, hcz20_1, hfz20_0, hfz20_1⟩ := cq2_ BK136.out)))))
  (try rw [Exit.noGoto_ret]); refine bodyPost_ret (results_tc rfl _ _ gb136 26 #[.int .i64 0, .int .i64 0] (0, 0) _ rfl (by exact put2_ (bk_ BK136.out)) Tryd.underlying26 rfl (by kernel_rfl)) rfl ?_; exact ⟨_, er_, rR_ (Kd.R_mono (rf2_ gb136 (Kd.R_types HO148.out BK136.out (by decide))) (fun _ hk => trivial)), bl3_ HB.out GE136.out GE144.out GE145.out⟩
end Go.Proofs.YtkifdadhojbohaaDoor.Pr
namespace Go.Proofs.YtkifdadhojbohaaDoor.Pu
open Go.RowKit Go.Proofs.YtkifdadhojbohaaDoor Go.Proofs.YtkifdadhojbohaaDoor.Pr Go.Proofs.YtkifdadhojbohaaDoorW.PrintWords Go.Proofs.YtkifdadhojbohaaDoorW.PrintLast
theorem run_f (s : ByteArray) (hs : s.size ≤ 1000000) :
    Ev (fun k => lexer_run.f k s) (if (numL (lst s)).2 = 2 then (1, s, 0, 0, wordL (lst s)) else (2, ⟨#[]⟩, (numL (lst s)).1, 0, (numL (lst s)).2)) := by
  unfold lexer_run.f
  refine Ev.bind (number_f s hs) ?_
  by_cases h : (numL (lst s)).2 = 2
  · refine Ev.ifp h ?_
    rw [if_pos h]
    exact Ev.bind (word_f s hs) (Ev.now _)
  · refine Ev.ifn h ?_
    rw [if_neg h]
    exact Ev.now _
theorem text_loop (s : ByteArray) (hs : s.size ≤ 1000000) (o : Nat) : ∀ (d i : Nat) (l : List UInt8), o < i → i ≤ s.size → s.size - i = d → (lst s).drop i = l →
    (∀ c ∈ ((lst s).take i).drop (o + 1), inStr c = true) →
    Ev (fun k => lexer_text.l0 k s o i) (match l.dropWhile inStr with
      | [] => (0, ⟨#[]⟩, 0, 0, 0, 2)
      | c :: r => if c.toNat = 34 then (3, str (((lst s).take i).drop (o + 1) ++ l.takeWhile inStr), 0, 0, (s.size : Int) - r.length, titleL (((lst s).take i).drop (o + 1) ++ l.takeWhile inStr)) else (0, ⟨#[]⟩, 0, 0, 0, 2)) := by
  intro d
  induction d with
  | zero =>
    intro i l ho hi hd hl hin
    obtain rfl : i = s.size := by omega
    obtain rfl : l = [] := by rw [← hl]; exact List.drop_eq_nil_of_le (by rw [lst_length]; omega)
    refine Ev.succ ?_
    simp only [lexer_text.l0]
    refine Ev.ifn (by omega) (Ev.ifp (by simp) ?_)
    simp only [List.dropWhile_nil]
    exact Ev.now _
  | succ d ih =>
    intro i l ho hi hd hl hin
    cases l with
    | nil => exact absurd (at_nil hi hl) (by omega)
    | cons c l =>
      obtain ⟨h1, h2, h3⟩ := at_cons hl
      refine Ev.succ ?_
      simp only [lexer_text.l0]
      rw [h2, wrap_nat i (by omega), wrap_nat o (by omega)]
      refine Ev.ifp (by omega) (Ev.ifp (by omega) ?_)
      by_cases h34 : c.toNat = 34
      · have hin' : inStr c = false := by simp [inStr, h34]
        refine Ev.ifp (by omega) (Ev.ifn (by omega) (Ev.ifn (by omega) (Ev.ifp (by omega) (Ev.ifp (by omega) (Ev.ifp (by omega) ?_)))))
        have hx : s.extract (((o + 1 : Nat) : Int)).toNat ((i : Int)).toNat = str (((lst s).take i).drop (o + 1)) := by
          apply lst_inj; rw [lst_extract]; rfl
        rw [hx]
        have ht := title_f (str (((lst s).take i).drop (o + 1))) (by rw [size_str, List.length_drop, List.length_take, lst_length]; omega)
        refine Ev.bind ht (Ev.ret ?_)
        rw [List.dropWhile_cons_of_neg (by simp [hin']), List.takeWhile_cons_of_neg (by simp [hin']), List.append_nil]
        simp only [h34, if_true, lst_str]
        have hr : (s.size : Int) - (l.length : Int) = ((i + 1 : Nat) : Int) := by
          rw [← h3, List.length_drop, lst_length]; omega
        rw [hr]
      · refine Ev.ifn (by omega) ?_
        by_cases h10 : c.toNat = 10
        · have hin' : inStr c = false := by simp [inStr, h10]
          refine Ev.ifp (by omega) (Ev.ifn (by omega) (Ev.ret ?_))
          rw [List.dropWhile_cons_of_neg (by simp [hin'])]
          simp only [h34, if_false]
        · have hin' : inStr c = true := by simp [inStr, h34, h10]
          refine Ev.ifn (by omega) ?_
          have htk : ((lst s).take (i + 1)).drop (o + 1) = ((lst s).take i).drop (o + 1) ++ [c] := by
            have e : (lst s).take (i + 1) = (lst s).take i ++ [c] := by
              rw [List.take_succ_eq_append_getElem (by rw [lst_length]; exact h1)]
              congr 2
              have := congrArg (·[0]?) hl
              simp only [List.getElem?_drop, Nat.add_zero, List.getElem?_cons_zero] at this
              exact (List.getElem?_eq_some_iff.1 this).2
            rw [e, List.drop_append_of_le_length (by rw [List.length_take, lst_length]; omega)]
          have := ih (i + 1) l (by omega) (by omega) (by omega) h3 (by
            rw [htk]; intro x hx; rw [List.mem_append] at hx
            rcases hx with hx | hx
            · exact hin x hx
            · simp at hx; subst hx; exact hin')
          rw [htk] at this
          rw [List.dropWhile_cons_of_pos hin', List.takeWhile_cons_of_pos hin']
          simpa only [List.append_assoc, List.singleton_append] using this
theorem text_f (s : ByteArray) (hs : s.size ≤ 1000000) (o : Nat) (l : List UInt8) (ho : o < s.size) (hl : (lst s).drop (o + 1) = l) :
    Ev (fun k => lexer_text.f k s o) ((textL l).kind, str (textL l).text, 0, 0, (if (textL l).kind = 3 then (s.size : Int) - (textL l).rest.length else 0), (textL l).code) := by
  have h := text_loop s hs o _ (o + 1) l (by omega) (by omega) rfl hl (by
    rw [List.drop_eq_nil_of_le (by rw [List.length_take]; omega)]; simp)
  unfold lexer_text.f
  rw [wrap_nat o (by omega)]
  rw [List.drop_eq_nil_of_le (by rw [List.length_take]; omega)] at h
  simp only [List.nil_append] at h
  unfold textL
  cases hd : l.dropWhile inStr with
  | nil => rw [hd] at h; exact h
  | cons c r =>
    rw [hd] at h
    by_cases h34 : c.toNat = 34
    · simp only [h34, if_true] at h ⊢; exact h
    · simp only [h34, if_false] at h ⊢; exact h
def nextT (n : Nat) (l : List UInt8) : Int × ByteArray × Int × Int × Int × Int × Int :=
  if (tokL l).code = 0 then ((tokL l).kind, str (tokL l).text, (tokL l).n, (n : Int) - l.length, (n : Int) - (tokL l).rest.length, 0, 0)
  else (0, ⟨#[]⟩, 0, 0, 0, (tokL l).code, (n : Int) - l.length)
theorem j2_f (a e c : Int) (k : Int) (x : ByteArray) (m z : Int) : Ev (fun r => lexer_next.j2 r a e c k x m z) (if c = 0 then (k, x, m, a, e, 0, 0) else (0, ⟨#[]⟩, 0, 0, 0, c, a)) := by
  refine Ev.succ ?_
  simp only [lexer_next.j2]
  by_cases h : c = 0
  · exact Ev.ifp h (Ev.ret (by rw [if_pos h]))
  · exact Ev.ifn h (Ev.ret (by rw [if_neg h]))
theorem next_loop (s : ByteArray) (hs : s.size ≤ 1000000) (o : Nat) : ∀ (d i : Nat) (l : List UInt8), o ≤ i → i ≤ s.size → s.size - i = d → (lst s).drop i = l →
    Ev (fun k => lexer_next.l0 k s o i) (let t := ((lst s).take i).drop o ++ l.takeWhile isRunB
      let r := clsL t (l.dropWhile isRunB)
      if r.code = 0 then (r.kind, str r.text, r.n, (o : Int), (s.size : Int) - r.rest.length, 0, 0) else (0, ⟨#[]⟩, 0, 0, 0, r.code, (o : Int))) := by
  have hj1 : ∀ (i : Nat) (l : List UInt8), o ≤ i → i ≤ s.size → (lst s).drop i = l → l.takeWhile isRunB = [] → l.dropWhile isRunB = l → Ev (fun k => lexer_next.j1 k s o i) (let t := ((lst s).take i).drop o ++ l.takeWhile isRunB
      let r := clsL t (l.dropWhile isRunB)
      if r.code = 0 then (r.kind, str r.text, r.n, (o : Int), (s.size : Int) - r.rest.length, 0, 0) else (0, ⟨#[]⟩, 0, 0, 0, r.code, (o : Int))) := by
    intro i l ho hi hl ht hr
    rw [ht, hr]
    refine Ev.succ ?_
    simp only [lexer_next.j1]
    refine Ev.ifp (by omega) (Ev.ifp (by omega) (Ev.ifp (by omega) ?_))
    have hx : s.extract ((o : Int)).toNat ((i : Int)).toNat = str (((lst s).take i).drop o) := by
      apply lst_inj; rw [lst_extract]; rfl
    rw [hx]
    have hrun := run_f (str (((lst s).take i).drop o)) (by rw [size_str, List.length_drop, List.length_take, lst_length]; omega)
    refine Ev.bind hrun ?_
    simp only [lst_str, List.append_nil]
    have hlen : (i : Int) = (s.size : Int) - (l.length : Int) := by rw [← hl, List.length_drop, lst_length]; omega
    unfold clsL
    by_cases h2 : (numL (((lst s).take i).drop o)).2 = 2
    · simp only [h2, if_true, ← hlen]
      exact j2_f _ _ _ _ _ _ _
    · simp only [h2, if_false, ← hlen]
      exact j2_f _ _ _ _ _ _ _
  intro d
  induction d with
  | zero =>
    intro i l ho hi hd hl
    obtain rfl : i = s.size := by omega
    obtain rfl : l = [] := by rw [← hl]; exact List.drop_eq_nil_of_le (by rw [lst_length]; omega)
    refine Ev.succ ?_
    simp only [lexer_next.l0]
    exact Ev.ifn (by omega) (hj1 _ [] ho hi hl rfl rfl)
  | succ d ih =>
    intro i l ho hi hd hl
    cases l with
    | nil => exact absurd (at_nil hi hl) (by omega)
    | cons c l =>
      obtain ⟨h1, h2, h3⟩ := at_cons hl
      refine Ev.succ ?_
      simp only [lexer_next.l0]
      rw [h2, wrap_nat i (by omega)]
      refine Ev.ifp (by omega) (Ev.ifp (by omega) (Ev.val (isRun_f c) ?_))
      by_cases hr : isRunB c = true
      · refine Ev.ifp hr ?_
        have htk : ((lst s).take (i + 1)).drop o = ((lst s).take i).drop o ++ [c] := by
          have e : (lst s).take (i + 1) = (lst s).take i ++ [c] := by
            rw [List.take_succ_eq_append_getElem (by rw [lst_length]; exact h1)]
            congr 2
            have := congrArg (·[0]?) hl
            simp only [List.getElem?_drop, Nat.add_zero, List.getElem?_cons_zero] at this
            exact (List.getElem?_eq_some_iff.1 this).2
          rw [e, List.drop_append_of_le_length (by rw [List.length_take, lst_length]; omega)]
        have := ih (i + 1) l (by omega) (by omega) (by omega) h3
        rw [htk] at this
        rw [List.takeWhile_cons_of_pos hr, List.dropWhile_cons_of_pos hr]
        simpa only [List.append_assoc, List.singleton_append] using this
      · refine Ev.ifn hr ?_
        exact hj1 i (c :: l) ho hi hl (List.takeWhile_cons_of_neg hr) (List.dropWhile_cons_of_neg hr)
theorem next_f (s : ByteArray) (hs : s.size ≤ 1000000) (i : Nat) (hi : i ≤ s.size) : Ev (fun k => lexer_next.f k s i) (nextT s.size (skipL false ((lst s).drop i))) := by
  unfold lexer_next.f
  refine Ev.bind (skip_f s hs i hi) ?_
  have hsuf : ∃ j, j ≤ s.size ∧ (lst s).drop j = skipL false ((lst s).drop i) ∧ (s.size : Int) - (skipL false ((lst s).drop i)).length = (j : Nat) := by
    have hsx : ∀ (l : List UInt8) (b : Bool), skipL b l <:+ l := by
      intro l
      induction l with
      | nil => intro b; cases b <;> exact List.suffix_refl _
      | cons c l ih =>
        intro b
        cases b
        · unfold skipL
          split
          · exact (ih true).trans (List.suffix_cons _ _)
          · split
            · exact (ih false).trans (List.suffix_cons _ _)
            · exact List.suffix_refl _
        · unfold skipL
          split
          · exact (ih false).trans (List.suffix_cons _ _)
          · exact (ih true).trans (List.suffix_cons _ _)
    have h1 := (hsx ((lst s).drop i) false).trans (List.drop_suffix i (lst s))
    obtain ⟨t, ht⟩ := h1
    refine ⟨t.length, ?_, ?_, ?_⟩
    · have := congrArg List.length ht; rw [List.length_append, lst_length] at this; omega
    · conv => lhs; rw [← ht]
      exact List.drop_left
    · have := congrArg List.length ht; rw [List.length_append, lst_length] at this; omega
  obtain ⟨j, hj, hl, he⟩ := hsuf
  rw [he]
  generalize skipL false ((lst s).drop i) = l at hl he
  unfold nextT
  rw [he]
  cases l with
  | nil =>
    have := at_nil hj hl
    subst this
    exact Ev.ifp rfl (Ev.ret (by simp [tokL, str]))
  | cons c l =>
    obtain ⟨h1, h2, h3⟩ := at_cons hl
    refine Ev.ifn (by omega) (Ev.ifp (by omega) (Ev.ifp (by omega) ?_))
    rw [h2, wrap_nat j (by omega)]
    refine Ev.val (isRun_f c) ?_
    by_cases hr : isRunB c = true
    · refine Ev.ifp hr ?_
      have h := next_loop s hs j _ (j + 1) l (by omega) (by omega) rfl h3
      have ht : ((lst s).take (j + 1)).drop j = [c] := by
        rw [List.take_succ_eq_append_getElem (by rw [lst_length]; exact h1), List.drop_append_of_le_length (by rw [List.length_take, lst_length]; omega), List.drop_eq_nil_of_le (by rw [List.length_take]; omega)]
        have := congrArg (·[0]?) hl
        simp only [List.getElem?_drop, Nat.add_zero, List.getElem?_cons_zero] at this
        rw [(List.getElem?_eq_some_iff.1 this).2]; rfl
      rw [ht] at h
      have ht2 : tokL (c :: l) = clsL (c :: l.takeWhile isRunB) (l.dropWhile isRunB) := by
        unfold tokL; dsimp only; rw [if_pos hr]
      rw [ht2]
      exact h
    · refine Ev.ifn hr ?_
      have hlen : ((j + 1 : Nat) : Int) = (s.size : Int) - (l.length : Int) := by rw [← h3, List.length_drop, lst_length]; omega
      by_cases h34 : c.toNat = 34
      · refine Ev.ifp (by omega) (Ev.bind (text_f s hs j l h1 h3) ?_)
        have ht2 : tokL (c :: l) = textL l := by
          unfold tokL; dsimp only; rw [if_neg hr, if_pos h34]
        rw [ht2]
        have hj2 := j2_f (j : Int) (if (textL l).kind = 3 then (s.size : Int) - (textL l).rest.length else 0) (textL l).code (textL l).kind (str (textL l).text) 0 0
        have hn : (textL l).n = 0 ∧ ((textL l).code = 0 → (textL l).kind = 3) := by
          unfold textL
          split
          · exact ⟨rfl, by decide⟩
          · split
            · exact ⟨rfl, fun _ => rfl⟩
            · exact ⟨rfl, by decide⟩
        rw [hn.1]
        by_cases hc : (textL l).code = 0
        · rw [if_pos hc] at hj2 ⊢
          rw [if_pos (hn.2 hc)] at hj2 ⊢
          exact hj2
        · rw [if_neg hc] at hj2 ⊢
          exact hj2
      · refine Ev.ifn (by omega) (Ev.val kinds_f (Ev.ifp (by omega) (Ev.ifp (byte_lt c) ?_)))
        rw [at_byte]
        by_cases h5 : kindOf c.toNat = 5
        · have ht2 : tokL (c :: l) = ⟨4, [c], 0, l, 0⟩ := by
            unfold tokL; dsimp only; rw [if_neg hr, if_neg h34, if_pos h5]
          rw [ht2]
          refine Ev.ifp (by omega) (Ev.ifp (by omega) (Ev.ifp (by omega) ?_))
          have hx : s.extract ((j : Int)).toNat (((j + 1 : Nat) : Int)).toNat = str [c] := by
            apply lst_inj; rw [lst_extract, lst_str]
            show ((lst s).take (j + 1)).drop j = [c]
            rw [List.take_succ_eq_append_getElem (by rw [lst_length]; exact h1), List.drop_append_of_le_length (by rw [List.length_take, lst_length]; omega), List.drop_eq_nil_of_le (by rw [List.length_take]; omega)]
            have := congrArg (·[0]?) hl
            simp only [List.getElem?_drop, Nat.add_zero, List.getElem?_cons_zero] at this
            rw [(List.getElem?_eq_some_iff.1 this).2]; rfl
          rw [hx, hlen]
          simpa using j2_f (j : Int) ((s.size : Int) - (l.length : Int)) 0 4 (str [c]) 0 0
        · have ht2 : tokL (c :: l) = ⟨0, [], 0, [], 2⟩ := by
            unfold tokL; dsimp only; rw [if_neg hr, if_neg h34, if_neg h5]
          rw [ht2]
          refine Ev.ifn (by omega) ?_
          simpa using j2_f (j : Int) ((j + 1 : Nat) : Int) 2 0 (⟨#[]⟩ : ByteArray) 0 0
theorem skipL_suffix : ∀ (l : List UInt8) (b : Bool), skipL b l <:+ l := by
  intro l
  induction l with
  | nil => intro b; cases b <;> exact List.suffix_refl _
  | cons c l ih =>
    intro b
    cases b
    · unfold skipL
      split
      · exact (ih true).trans (List.suffix_cons _ _)
      · split
        · exact (ih false).trans (List.suffix_cons _ _)
        · exact List.suffix_refl _
    · unfold skipL
      split
      · exact (ih false).trans (List.suffix_cons _ _)
      · exact (ih true).trans (List.suffix_cons _ _)
theorem tok_suffix (l : List UInt8) (hc : (tokL l).code = 0) : (tokL l).rest <:+ l ∧ (l ≠ [] → (tokL l).rest.length < l.length ∧ (tokL l).kind ≠ 5) := by
  cases l with
  | nil => exact ⟨List.suffix_refl _, fun h => absurd rfl h⟩
  | cons c l =>
    unfold tokL at hc ⊢
    dsimp only at hc ⊢
    by_cases hr : isRunB c = true
    · rw [if_pos hr] at hc ⊢
      have hsx := List.dropWhile_suffix isRunB (l := l)
      have hl := hsx.length_le
      unfold clsL at hc ⊢
      split
      · exact ⟨hsx.trans (List.suffix_cons _ _), fun _ => ⟨by simp; omega, by simp⟩⟩
      · exact ⟨hsx.trans (List.suffix_cons _ _), fun _ => ⟨by simp; omega, by simp⟩⟩
    · rw [if_neg hr] at hc ⊢
      by_cases h34 : c.toNat = 34
      · rw [if_pos h34] at hc ⊢
        unfold textL at hc ⊢
        have hsx := List.dropWhile_suffix inStr (l := l)
        cases hd : l.dropWhile inStr with
        | nil => rw [hd] at hc; simp at hc
        | cons e r =>
          rw [hd] at hc hsx
          dsimp only at hc ⊢
          have hl := hsx.length_le
          by_cases he : e.toNat = 34
          · rw [if_pos he] at hc ⊢
            exact ⟨(List.suffix_cons _ _).trans (hsx.trans (List.suffix_cons _ _)), fun _ => ⟨by simp at hl ⊢; omega, by simp⟩⟩
          · rw [if_neg he] at hc
            exact absurd hc (by decide)
      · rw [if_neg h34] at hc ⊢
        by_cases h5 : kindOf c.toNat = 5
        · rw [if_pos h5]
          exact ⟨List.suffix_cons _ _, fun _ => ⟨by simp, by simp⟩⟩
        · rw [if_neg h5] at hc
          exact absurd hc (by decide)
structure Tok where
  kind : Int
  text : List UInt8
  n : Int
  rem : Nat
def lexL : Nat → List UInt8 → Except (Int × Nat) (List Tok)
  | 0, _ => .ok []
  | f + 1, l =>
    let l1 := skipL false l
    if (tokL l1).code ≠ 0 then .error ((tokL l1).code, l1.length)
    else if l1 = [] then .ok [⟨5, [], 0, 0⟩]
    else match lexL f (tokL l1).rest with
      | .error e => .error e
      | .ok ts => .ok (⟨(tokL l1).kind, (tokL l1).text, (tokL l1).n, l1.length⟩ :: ts)
def Tok.at_ (n : Nat) (t : Tok) : S46 := ⟨t.kind, str t.text, t.n, (n : Int) - t.rem⟩
def lexAns (n : Nat) (acc : List S46) : Except (Int × Nat) (List Tok) → List S46 × Int × Int
  | .error e => ([], e.1, (n : Int) - e.2)
  | .ok ts => (acc ++ ts.map (Tok.at_ n), 0, 0)
theorem suffix_at {s : ByteArray} {l : List UInt8} (h : l <:+ lst s) : ∃ j, j ≤ s.size ∧ (lst s).drop j = l ∧ (s.size : Int) - l.length = (j : Nat) := by
  obtain ⟨t, ht⟩ := h
  refine ⟨t.length, ?_, ?_, ?_⟩
  · have := congrArg List.length ht; rw [List.length_append, lst_length] at this; omega
  · conv => lhs; rw [← ht]
    exact List.drop_left
  · have := congrArg List.length ht; rw [List.length_append, lst_length] at this; omega
theorem lex_any (s : ByteArray) (hs : s.size ≤ 1000000) (nx : Nat → Int → Option (Int × ByteArray × Int × Int × Int × Int × Int))
    (hnx : ∀ i : Nat, i ≤ s.size → Ev (fun k => nx k i) (nextT s.size (skipL false ((lst s).drop i))))
    (lp : Nat → List S46 → Int → Option (List S46 × Int × Int))
    (hlp : ∀ k a i, lp (k + 1) a i = (nx k i).bind fun b => (if b.2.2.2.2.2.1 = 0 then (if a.length < 3518437208883 then ((some (a ++ [(⟨b.1, b.2.1, b.2.2.1, b.2.2.2.1⟩ : S46)] : List (S46))).bind fun y => (if b.1 = 5 then (some (y, 0, 0)) else (lp k y b.2.2.2.2.1))) else (none)) else (some (([] : List (S46)), b.2.2.2.2.2.1, b.2.2.2.2.2.2)))) :
    ∀ (f : Nat) (i : Nat) (l : List UInt8) (acc : List S46), i ≤ s.size → (lst s).drop i = l → l.length < f → acc.length ≤ i → Ev (fun k => lp k acc i) (lexAns s.size acc (lexL f l)) := by
  intro f
  induction f with
  | zero => intro i l acc hi hl hf; omega
  | succ f ih =>
    intro i l acc hi hl hf ha
    refine Ev.succ ?_
    simp only [hlp]
    have hn := hnx i hi
    rw [hl] at hn
    refine Ev.bind hn ?_
    have hsk := skipL_suffix l false
    unfold lexL
    dsimp only
    generalize hl1 : skipL false l = l1 at hsk ⊢
    unfold nextT
    by_cases hc : (tokL l1).code = 0
    · rw [if_pos hc, if_neg (by simp [hc])]
      refine Ev.ifp rfl (Ev.ifp (by omega) ?_)
      simp only [Option.bind_some]
      by_cases h0 : l1 = []
      · rw [if_pos h0]
        subst h0
        exact Ev.ifp rfl (Ev.ret (by simp [lexAns, Tok.at_, tokL]))
      · rw [if_neg h0]
        obtain ⟨h1, h2⟩ := tok_suffix l1 hc
        obtain ⟨h3, h4⟩ := h2 h0
        refine Ev.ifn h4 ?_
        have hls : l <:+ lst s := by rw [← hl]; exact List.drop_suffix _ _
        obtain ⟨j, hj1, hj2, hj3⟩ := suffix_at (h1.trans (hsk.trans hls))
        have hle := hsk.length_le
        have hll : l.length = s.size - i := by rw [← hl, List.length_drop, lst_length]
        rw [hj3]
        have := ih j _ (acc ++ [(⟨(tokL l1).kind, str (tokL l1).text, (tokL l1).n, (s.size : Int) - l1.length⟩ : S46)]) hj1 hj2 (by omega) (by simp; omega)
        cases hx : lexL f (tokL l1).rest with
        | error e => rw [hx] at this; exact this
        | ok ts =>
          rw [hx] at this
          simpa [lexAns, Tok.at_] using this
    · rw [if_neg hc, if_pos hc]
      exact Ev.ifn hc (Ev.ret rfl)
theorem Lex_f (s : ByteArray) (hs : s.size ≤ 65536) : Ev (fun k => lexer_Lex.f k s) (lexAns s.size [] (lexL (s.size + 1) (lst s))) := by
  unfold lexer_Lex.f
  refine Ev.ifn (by omega) ?_
  have h := lex_any s (by omega) (fun k i => lexer_next.f k s i) (fun i hi => next_f s (by omega) i hi) (fun k a i => lexer_Lex.l0 k s a i) (fun k a i => by simp only [lexer_Lex.l0]) (s.size + 1) 0 (lst s) [] (by omega) rfl (by rw [lst_length]; omega) (by simp)
  exact h
end Go.Proofs.YtkifdadhojbohaaDoor.Pu
