/- Joined out of the texts of this proof that bear the names PrF53 PrF23 PwC PuE PuF PuG PwFr: what each shows stands over it there. -/
import Derived.Test.YtkifdadhojbohaaDoorFk1
import Derived.Test.YtkifdadhojbohaaDoorFf1
import Derived.Test.YtkifdadhojbohaaDoorFw1
import Derived.Test.YtkifdadhojbohaaDoorFp1
import Derived.Test.YtkifdadhojbohaaDoorFc1
set_option linter.unusedVariables false
set_option linter.unusedSimpArgs false
set_option maxHeartbeats 8000000
set_option maxRecDepth 100000
namespace Go.Proofs.YtkifdadhojbohaaDoor.Pr
open Go.Proofs.YtkifdadhojbohaaDoor
open Go.RowKit Go.Proofs.YtkifdadhojbohaaDoorW.PrintWords Go.Proofs.YtkifdadhojbohaaDoorW.PrintLast Go.Proofs.YtkifdadhojbohaaDoorW.PrintMore
attribute [local go_sem] max2_int min2_int max_two min_two max_three min_three max_four min_four   -- for this text's walks alone
set_option linter.unusedVariables false
set_option linter.unusedSimpArgs false
mutual
def salchowref10_entry.l0 : Nat → List (S46) → Int → Int → ByteArray → List (S46) → Bool → Int → Option (ByteArray × (List (S46)) × Bool × (List (S41)) × Int × Int × Int × Int)
 | 0, _, _, _, _, _, _, _ => none
 | k + 1, x0, x1, x2, x256000, x256001, x256002, x256004 => if 0 ≤ x1 then (if x1 < (x0.length : Int) then ((salchowref10_atom.f ((rd_T46 x0 x1).f0) ((rd_T46 x0 x1).f1) ((rd_T46 x0 x1).f2) ((rd_T46 x0 x1).f3)).bind fun t259 => (if t259 = true then (if x256001.length < 3518437208883 then (salchowref10_entry.l0 k x0 (wrap64 (x1 + 1)) x2 x256000 (x256001 ++ [(⟨(rd_T46 x0 x1).f0, (rd_T46 x0 x1).f1, (rd_T46 x0 x1).f2, (rd_T46 x0 x1).f3⟩ : S46)]) x256002 x256004) else (none)) else ((salchowref10_sign.f ((rd_T46 x0 x1).f0) ((rd_T46 x0 x1).f1) ((rd_T46 x0 x1).f2) ((rd_T46 x0 x1).f3) (⟨#[59]⟩ : ByteArray)).bind fun t265 => (if t265 = true then (some (x256000, x256001, x256002, ([] : List (S41)), x256004, wrap64 (x1 + 1), 0, 0)) else ((salchowref10_sign.f ((rd_T46 x0 x1).f0) ((rd_T46 x0 x1).f1) ((rd_T46 x0 x1).f2) ((rd_T46 x0 x1).f3) (⟨#[123]⟩ : ByteArray)).bind fun t267 => (if t267 = true then (if x2 = 8 then (some (x256000, x256001, x256002, ([] : List (S41)), x256004, x1, 6, (rd_T46 x0 x1).f3)) else (salchowref10_entry.l1 k x0 (wrap64 (x1 + 1)) x2 x256000 x256001 true ([] : List (S41)) x256004)) else (some (x256000, x256001, x256002, ([] : List (S41)), x256004, x1, 2, (rd_T46 x0 x1).f3)))))))) else (none)) else (none)
def salchowref10_entry.l1 : Nat → List (S46) → Int → Int → ByteArray → List (S46) → Bool → List (S41) → Int → Option (ByteArray × (List (S46)) × Bool × (List (S41)) × Int × Int × Int × Int)
 | 0, _, _, _, _, _, _, _, _ => none
 | k + 1, x0, x1, x2, x256000, x256001, x256002, x256003, x256004 => if 0 ≤ x1 then (if x1 < (x0.length : Int) then ((salchowref10_sign.f ((rd_T46 x0 x1).f0) ((rd_T46 x0 x1).f1) ((rd_T46 x0 x1).f2) ((rd_T46 x0 x1).f3) (⟨#[125]⟩ : ByteArray)).bind fun t271 => (if t271 = true then (some (x256000, x256001, x256002, x256003, x256004, wrap64 (x1 + 1), 0, 0)) else ((salchowref10_entry.f k x0 x1 (wrap64 (x2 + 1))).bind fun bt272 => (if bt272.2.2.2.2.2.2.1 = 0 then (if x256003.length < 1759218604441 then (salchowref10_entry.l1 k x0 bt272.2.2.2.2.2.1 x2 x256000 x256001 x256002 (x256003 ++ [(⟨bt272.1, bt272.2.1, bt272.2.2.1, bt272.2.2.2.1, bt272.2.2.2.2.1⟩ : S41)]) x256004) else (none)) else (some (x256000, x256001, x256002, x256003, x256004, x1, bt272.2.2.2.2.2.2.1, bt272.2.2.2.2.2.2.2)))))) else (none)) else (none)
def salchowref10_entry.f : Nat → List (S46) → Int → Int → Option (ByteArray × (List (S46)) × Bool × (List (S41)) × Int × Int × Int × Int)
 | 0, _, _, _ => none
 | k + 1, l0, a1, a2 => if 0 ≤ a1 then (if a1 < (l0.length : Int) then (if ((rd_T46 l0 a1).f0) = 1 then (salchowref10_entry.l0 k l0 (wrap64 (a1 + 1)) a2 ((rd_T46 l0 a1).f1) ([] : List (S46)) false ((rd_T46 l0 a1).f3)) else (some ((rd_T46 l0 a1).f1, ([] : List (S46)), false, ([] : List (S41)), (rd_T46 l0 a1).f3, a1, 2, (rd_T46 l0 a1).f3))) else (none)) else (none)
end
theorem salchowref10_entry.mono_l : ∀ k, (∀ y0 y1 y2, LeO (salchowref10_entry.f k y0 y1 y2) (salchowref10_entry.f (k + 1) y0 y1 y2)) ∧ (∀ y0 y1 y2 y3 y4 y5 y6, LeO (salchowref10_entry.l0 k y0 y1 y2 y3 y4 y5 y6) (salchowref10_entry.l0 (k + 1) y0 y1 y2 y3 y4 y5 y6)) ∧ (∀ y0 y1 y2 y3 y4 y5 y6 y7, LeO (salchowref10_entry.l1 k y0 y1 y2 y3 y4 y5 y6 y7) (salchowref10_entry.l1 (k + 1) y0 y1 y2 y3 y4 y5 y6 y7))
 | 0 => ⟨fun _ _ _ r h => by simp [salchowref10_entry.f] at h, fun _ _ _ _ _ _ _ r h => by simp [salchowref10_entry.l0] at h, fun _ _ _ _ _ _ _ _ r h => by simp [salchowref10_entry.l1] at h⟩
 | k + 1 => by
  obtain ⟨ih0, ih1, ih2⟩ := salchowref10_entry.mono_l k
  refine ⟨?_, ?_, ?_⟩
  ·
   intro y0 y1 y2
   unfold salchowref10_entry.f
   repeat' first
   | (with_reducible exact LeO.refl _)
   | exact ih0 _ _ _
   | exact ih1 _ _ _ _ _ _ _
   | exact ih2 _ _ _ _ _ _ _ _
   | exact LeO.none _
   | refine LeO.ite ?_ ?_
   | refine LeO.bind ?_ (fun _ => ?_)
  ·
   intro y0 y1 y2 y3 y4 y5 y6
   unfold salchowref10_entry.l0
   repeat' first
   | (with_reducible exact LeO.refl _)
   | exact ih0 _ _ _
   | exact ih1 _ _ _ _ _ _ _
   | exact ih2 _ _ _ _ _ _ _ _
   | exact LeO.none _
   | refine LeO.ite ?_ ?_
   | refine LeO.bind ?_ (fun _ => ?_)
  ·
   intro y0 y1 y2 y3 y4 y5 y6 y7
   unfold salchowref10_entry.l1
   repeat' first
   | (with_reducible exact LeO.refl _)
   | exact ih0 _ _ _
   | exact ih1 _ _ _ _ _ _ _
   | exact ih2 _ _ _ _ _ _ _ _
   | exact LeO.none _
   | refine LeO.ite ?_ ?_
   | refine LeO.bind ?_ (fun _ => ?_)
theorem salchowref10_entry.mono : ∀ a0 a1 a2 k, LeO (salchowref10_entry.f k a0 a1 a2) (salchowref10_entry.f (k + 1) a0 a1 a2) := by
 intro a0 a1 a2 k
 obtain ⟨ih0, ih1, ih2⟩ := salchowref10_entry.mono_l k
 exact ih0 a0 a1 a2
def salchowref10_entry.T1 : Bool × List (List Nat × List Nat) := (true, [([], []), ([], []), ([0, 1], [0, 1]), ([2], [2]), ([3], [3]), ([], []), ([], []), ([5, 6], [5, 6]), ([7], [7]), ([8], [8]), ([4, 9], [4, 9]), ([], []), ([11, 10, 0, 1, 2, 3, 4, 5, 6, 7, 8, 9, 10, 11], [10, 11])])
def salchowref10_entry.B1 : List Nat := [0, 0, 3, 7, 15, 0, 0, 96, 224, 480, 1023, 0, 4095]
theorem salchowref10_entry.tab1 : rtab .any (opsOf Tryd.f53 1) = salchowref10_entry.T1 := by kernel_rfl
theorem salchowref10_entry.bits1 : waitsOk salchowref10_entry.T1.2 salchowref10_entry.B1 = true := by kernel_rfl
def salchowref10_entry.T3 : Bool × List (List Nat × List Nat) := (true, [([], []), ([], []), ([], []), ([], []), ([2, 3], [2, 3]), ([4], [4]), ([5], [5]), ([6], [6]), ([0, 0], [0]), ([1, 8, 0, 1, 8], [1]), ([7, 9, 0, 1, 2, 3, 4, 5, 6, 7, 8, 9], [7])])
def salchowref10_entry.B3 : List Nat := [0, 0, 0, 0, 12, 28, 60, 124, 1, 259, 1023]
theorem salchowref10_entry.tab3 : rtab .any (opsOf Tryd.f53 3) = salchowref10_entry.T3 := by kernel_rfl
theorem salchowref10_entry.bits3 : waitsOk salchowref10_entry.T3.2 salchowref10_entry.B3 = true := by kernel_rfl
def salchowref10_entry.T6 : Bool × List (List Nat × List Nat) := (true, [([], []), ([0], [0]), ([], []), ([], []), ([2, 3], [2, 3]), ([4], [4]), ([5], [5]), ([1, 6], [1, 6]), ([0, 1, 2, 3, 4, 5, 6, 7], []), ([8, 7, 7, 0, 1, 2, 3, 4, 5, 6, 7], [7, 8])])
def salchowref10_entry.B6 : List Nat := [0, 1, 0, 0, 12, 28, 60, 127, 255, 511]
theorem salchowref10_entry.tab6 : rtab .any (opsOf Tryd.f53 6) = salchowref10_entry.T6 := by kernel_rfl
theorem salchowref10_entry.bits6 : waitsOk salchowref10_entry.T6.2 salchowref10_entry.B6 = true := by kernel_rfl
def salchowref10_entry.T11 : Bool × List (List Nat × List Nat) := (true, [([], []), ([], []), ([], []), ([], []), ([2, 3], [2, 3]), ([4], [4]), ([5], [5]), ([6], [6]), ([0, 0], [0]), ([1, 8, 0, 1, 8], [1]), ([7, 9, 0, 1, 2, 3, 4, 5, 6, 7, 8, 9], [7])])
def salchowref10_entry.B11 : List Nat := [0, 0, 0, 0, 12, 28, 60, 124, 1, 259, 1023]
theorem salchowref10_entry.tab11 : rtab .any (opsOf Tryd.f53 11) = salchowref10_entry.T11 := by kernel_rfl
theorem salchowref10_entry.bits11 : waitsOk salchowref10_entry.T11.2 salchowref10_entry.B11 = true := by kernel_rfl
def salchowref10_entry.T13 : Bool × List (List Nat × List Nat) := (true, [([], []), ([], []), ([], []), ([], []), ([2, 3], [2, 3]), ([4], [4]), ([5], [5]), ([6], [6]), ([0, 0], [0]), ([1, 8, 0, 1, 8], [1]), ([7, 9, 0, 1, 2, 3, 4, 5, 6, 7, 8, 9], [7])])
def salchowref10_entry.B13 : List Nat := [0, 0, 0, 0, 12, 28, 60, 124, 1, 259, 1023]
theorem salchowref10_entry.tab13 : rtab .any (opsOf Tryd.f53 13) = salchowref10_entry.T13 := by kernel_rfl
theorem salchowref10_entry.bits13 : waitsOk salchowref10_entry.T13.2 salchowref10_entry.B13 = true := by kernel_rfl
theorem salchowref10_entry.calls (k : Nat) : ∀ (A0 : Option Addr) (c0 : Nat) (l0 : List (S46)) (a1 : Int) (a2 : Int) (r1 : ByteArray) (r2 : List (S46)) (r3 : Bool) (r4 : List (S41)) (r5 : Int) (r6 : Int) (r7 : Int) (r8 : Int) (w : World) (hr0 : Kd.C k46 w A0 l0.length l0) (hc0 : l0.length ≤ c0) (h : salchowref10_entry.f k l0 a1 a2 = some (r1, r2, r3, r4, r5, r6, r7, r8)),
  Calls Tryd.prog 53 #[.slice A0 l0.length c0, .int .i64 a1, .int .i64 a2] w fun e w' => ∃ v1_ v3_ : Value, e = .returned (.tuple #[.agg #[.string r1, v1_, .bool r3, v3_, .int .i64 r5], .int .i64 r6, .agg #[.int .i64 r7, .int .i64 r8]]) ∧ Kd.R k46 46 w' w.heap.size (fun _ => True) v1_ r2 ∧ Kd.R k41 41 w' w.heap.size (fun k_ => some k_ ≠ (v1_ : Value).ownBlock) v3_ r4 ∧ Below w.heap.size w w' := by
 induction k using Nat.strongRecOn with
 | _ k ih =>
 intro A0 c0 l0 a1 a2 r1 r2 r3 r4 r5 r6 r7 r8 w hr0 hc0 h
 cases k with
 | zero => exact absurd h (by simp [salchowref10_entry.f])
 | succ k =>
 simp only [salchowref10_entry.f] at h; have hu41 := Tryd.underlying41; have hu26 := Tryd.underlying26; have hu46 := Tryd.underlying46; have HR0 := Aside0.mk hr0; have HC0 := Aside0.mk hc0; clear hr0 hc0; have HB := Aside0.mk (Below.refl w.heap.size w); have H : (if 0 ≤ a1 then (if a1 < (l0.length : Int) then (if ((rd_T46 l0 a1).f0) = 1 then (salchowref10_entry.l0 k l0 (wrap64 (a1 + 1)) a2 ((rd_T46 l0 a1).f1) ([] : List (S46)) false ((rd_T46 l0 a1).f3)) else (some ((rd_T46 l0 a1).f1, ([] : List (S46)), false, ([] : List (S41)), (rd_T46 l0 a1).f3, a1, 2, (rd_T46 l0 a1).f3))) else (none)) else (none)) = some (r1, r2, r3, r4, r5, r6, r7, r8) := h; clear h; replace H := gd_ H; obtain ⟨c4b0, H⟩ := H; replace H := gd_ H; obtain ⟨c5b0, H⟩ := H; replace H := (sp_ H).symm; obtain ⟨c6, H⟩ | ⟨c6, H⟩ := H
 ·
  have c6b0 := beq_eq_false_iff_ne.mpr c6; have c6b1 := bne_iff_ne.mpr c6; simp only [Option.some.injEq, Prod.mk.injEq] at H; obtain ⟨rfl, rfl, rfl, rfl, rfl, rfl, rfl, rfl⟩ := H
  go_enter Tryd.func53, Tryd.ntmps53
  try go_wp2_with (first | ((with_reducible refine gate_dst (N := 6) rfl ?_); refine bx_ (N := 6) (cs := #[.string (⟨#[]⟩ : ByteArray), .slice none 0 0, .bool false, .slice none 0 0, .int .i64 0]) (t := 41) ?_; intro gb251 hg w137 hbox hb; refine cut4_ (below_step (bl_ HB.out) hb) (hbox) (bz_ (w := w) hg (bl_ HB.out)) (bz_ (w := w) hg (bl_ HB.out)) ?_; clear HB; intro HB BK251 GW251 GE251; clear hb hbox hg) | ((with_reducible refine gate_dst (N := 8) rfl ?_); refine bx_ (N := 8) (cs := #[.int .i64 0, .int .i64 0]) (t := 26) ?_; intro gb252 hg w138 hbox hb; refine cut7_ (bb_ BK251.out hb) (below_step (bl1_ HB.out GE251.out) hb) (hbox) (bz_ (w := w) hg (bl1_ HB.out GE251.out)) (bz_ (w := w) hg (bl1_ HB.out GE251.out)) (nl_ hg BK251.out) (ng_ hg BK251.out) ?_; clear BK251 HB; intro BK251 HB BK252 GW252 GE252 NB251_252 NB252_251; clear hb hbox hg))
  refine cut3_ (blk_drew BK251.out) (blk_drew BK252.out) (below_drew1 HB.out) ?_; clear BK251 BK252 HB; intro BK251 BK252 HB; obtain ⟨p253, q253, ad253, e253, hw253_0, hw253_1, hw253_2, hw253_3, hx253_0, hx253_1, hx253_2, hx253_3⟩ := ab46_ HB.out HR0.out a1; cases e253; obtain ⟨p254, q254, ad254, e254, hw254_0, hw254_1, hw254_2, hw254_3, hx254_0, hx254_1, hx254_2, hx254_3⟩ := ab46_ HB.out HR0.out a1; obtain rfl : ad253 = ad254 := (by injection e254); refine start_ (n := 13) (S := fun w' => w'.cell? (ad253.add ((a1).toNat * 4)) = some (.int .i64 ((rd_T46 l0 a1).f0)) ∧ w'.cell? ⟨(ad253.add ((a1).toNat * 4)).block, (ad253.add ((a1).toNat * 4)).off + 1, none⟩ = some (.string ((rd_T46 l0 a1).f1)) ∧ w'.cell? ⟨(ad253.add ((a1).toNat * 4)).block, (ad253.add ((a1).toNat * 4)).off + 2, none⟩ = some (.int .i64 ((rd_T46 l0 a1).f2)) ∧ w'.cell? ⟨(ad253.add ((a1).toNat * 4)).block, (ad253.add ((a1).toNat * 4)).off + 3, none⟩ = some (.int .i64 ((rd_T46 l0 a1).f3)) ∧ w'.cell? (ad253.add ((a1).toNat * 4)) = some (.int .i64 ((rd_T46 l0 a1).f0)) ∧ w'.cell? ⟨(ad253.add ((a1).toNat * 4)).block, (ad253.add ((a1).toNat * 4)).off + 1, none⟩ = some (.string ((rd_T46 l0 a1).f1)) ∧ w'.cell? ⟨(ad253.add ((a1).toNat * 4)).block, (ad253.add ((a1).toNat * 4)).off + 2, none⟩ = some (.int .i64 ((rd_T46 l0 a1).f2)) ∧ w'.cell? ⟨(ad253.add ((a1).toNat * 4)).block, (ad253.add ((a1).toNat * 4)).off + 3, none⟩ = some (.int .i64 ((rd_T46 l0 a1).f3))) (ds := []) (bm_ 13 0) (by kernel_rfl) rfl (by kernel_rfl) ⟨(pw_cell_below HB.out hw253_0), (pw_cell_below HB.out hw253_1), (pw_cell_below HB.out hw253_2), (pw_cell_below HB.out hw253_3), (pw_cell_below HB.out hw254_0), (pw_cell_below HB.out hw254_1), (pw_cell_below HB.out hw254_2), (pw_cell_below HB.out hw254_3)⟩ (fun hHeld => ?_); refine with_tabW salchowref10_entry.tab1 salchowref10_entry.bits1 (fun HT_ HW_ => ?_); generalize w138.drew = w139 at BK251 BK252 HB hx253_0 hx253_1 hx253_2 hx253_3 hx254_0 hx254_1 hx254_2 hx254_3 hHeld ⊢; refine pt_ HT_.out (i := 0) (N := some 13) (bm_ 13 1) ?_; refine pt_ HT_.out (i := 1) (N := some 14) (bm_ 13 3) ?_; refine pt_ HT_.out (i := 2) (N := some 15) (bm_ 13 7) ?_; refine pt_ HT_.out (i := 3) (N := some 16) (bm_ 13 15) ?_; refine pt_ HT_.out (i := 5) (N := some 18) (bm_ 13 47) ?_; refine pt_ HT_.out (i := 6) (N := some 19) (bm_ 13 111) ?_; refine pt_ HT_.out (i := 7) (N := some 20) (bm_ 13 239) ?_; refine pt_ HT_.out (i := 8) (N := some 21) (bm_ 13 495) ?_; refine tw_ HT_.out HW_.out hHeld (i := 4) (N := some 17) (bm_ 13 511) ?_; refine tw_ HT_.out HW_.out hHeld (i := 9) (N := some 22) (bm_ 13 1023) ?_; refine pt_ HT_.out (i := 10) (N := some 23) (bm_ 13 2047) ?_; refine on_ HT_.out (i := 11) (N := some 9) (bm_ 13 4095) (fun K hK => ?_); refine bs_ (N := 9) (cs := #[.string (⟨#[]⟩ : ByteArray), .slice none 0 0, .bool false, .slice none 0 0, .int .i64 0]) (t := 41) ?_; intro gb255 hg w140 hbox hb; refine cut10_ (bb_ BK251.out hb) (bb_ BK252.out hb) (below_step (bl2_ HB.out GE251.out GE252.out) hb) (hbox) (bz_ (w := w) hg (bl2_ HB.out GE251.out GE252.out)) (bz_ (w := w) hg (bl2_ HB.out GE251.out GE252.out)) (nl_ hg BK251.out) (ng_ hg BK251.out) (nl_ hg BK252.out) (ng_ hg BK252.out) ?_; clear BK251 BK252 HB; intro BK251 BK252 HB BK255 GW255 GE255 NB251_255 NB255_251 NB252_255 NB255_252; clear hb hbox hg; refine hK.out _ _ ⟨(pw_cell_below HB.out hw253_0), (pw_cell_below HB.out hw253_1), (pw_cell_below HB.out hw253_2), (pw_cell_below HB.out hw253_3), (pw_cell_below HB.out hw254_0), (pw_cell_below HB.out hw254_1), (pw_cell_below HB.out hw254_2), (pw_cell_below HB.out hw254_3)⟩ (fun hHeld => ?_); clear hK K; refine nm_ ?_; refine on_ HT_.out (i := 12) (N := none) (bm_ 13 8191) (fun K hK => ?_); have hs141 : w140.cell? ⟨gb255, 0, none⟩ = some (.string (⟨#[]⟩ : ByteArray)) := (blk_cell BK255.out 0).trans rfl; have hfs141 := blk_frozen BK255.out 0; have hns141_0 := NB251_255.out; have hns141_1 := NB252_255.out; have hms141_0 := NB255_251.out; have hms141_1 := NB255_252.out; have hs142 : w140.cell? ⟨gb255, 1, none⟩ = some (.slice none 0 0) := (blk_cell BK255.out 1).trans rfl; have hfs142 := blk_frozen BK255.out 1; have hns142_0 := NB251_255.out; have hns142_1 := NB252_255.out; have hms142_0 := NB255_251.out; have hms142_1 := NB255_252.out; have hs143 : w140.cell? ⟨gb255, 2, none⟩ = some (.bool false) := (blk_cell BK255.out 2).trans rfl; have hfs143 := blk_frozen BK255.out 2; have hns143_0 := NB251_255.out; have hns143_1 := NB252_255.out; have hms143_0 := NB255_251.out; have hms143_1 := NB255_252.out; have hs144 : w140.cell? ⟨gb255, 3, none⟩ = some (.slice none 0 0) := (blk_cell BK255.out 3).trans rfl; have hfs144 := blk_frozen BK255.out 3; have hns144_0 := NB251_255.out; have hns144_1 := NB252_255.out; have hms144_0 := NB255_251.out; have hms144_1 := NB255_252.out; have hs145 : w140.cell? ⟨gb255, 4, none⟩ = some (.int .i64 0) := (blk_cell BK255.out 4).trans rfl; have hfs145 := blk_frozen BK255.out 4; have hns145_0 := NB251_255.out; have hns145_1 := NB252_255.out; have hms145_0 := NB255_251.out; have hms145_1 := NB255_252.out; refine sk_ ?_; refine hK.out _ _ ⟨(cf5_ gb255 (fr_ hw253_0 GW255.out) hHeld.1), (cf5_ gb255 (fr_ hw253_1 GW255.out) hHeld.2.1), (cf5_ gb255 (fr_ hw253_2 GW255.out) hHeld.2.2.1), (cf5_ gb255 (fr_ hw253_3 GW255.out) hHeld.2.2.2.1), (cf5_ gb255 (fr_ hw254_0 GW255.out) hHeld.2.2.2.2.1), (cf5_ gb255 (fr_ hw254_1 GW255.out) hHeld.2.2.2.2.2.1), (cf5_ gb255 (fr_ hw254_2 GW255.out) hHeld.2.2.2.2.2.2.1), (cf5_ gb255 (fr_ hw254_3 GW255.out) hHeld.2.2.2.2.2.2.2)⟩ (fun hHeld => ?_); clear hK K; refine done_ (done_of HT_.out (by kernel_rfl)) ?_; have p256 : 0 ≤ (a1 : Int) := dt_; have q256 : a1 < (l0.length : Int) := dt_; obtain ⟨ad256, e256, hx256_0, hx256_1, hx256_2, hx256_3⟩ := at_T46 HR0.out a1 p256 q256; obtain rfl : ad253 = ad256 := (by injection e256); have hn256_0 : ad253.block ≠ gb255 := Nat.ne_of_lt (Nat.lt_of_lt_of_le (by have := World.block_lt_of_cell? _ _ hx256_0; first | rwa [add_block] at this | exact this) GW255.out); have hn256_1 : ad253.block ≠ gb255 := Nat.ne_of_lt (Nat.lt_of_lt_of_le (by have := World.block_lt_of_cell? _ _ hx256_0; first | rwa [add_block] at this | exact this) GW255.out); have hn256_2 : ad253.block ≠ gb255 := Nat.ne_of_lt (Nat.lt_of_lt_of_le (by have := World.block_lt_of_cell? _ _ hx256_0; first | rwa [add_block] at this | exact this) GW255.out); have hn256_3 : ad253.block ≠ gb255 := Nat.ne_of_lt (Nat.lt_of_lt_of_le (by have := World.block_lt_of_cell? _ _ hx256_0; first | rwa [add_block] at this | exact this) GW255.out); have hn256_4 : ad253.block ≠ gb255 := Nat.ne_of_lt (Nat.lt_of_lt_of_le (by have := World.block_lt_of_cell? _ _ hx256_0; first | rwa [add_block] at this | exact this) GW255.out); replace hx256_0 := pw_cell_below HB.out hx256_0; replace hx256_1 := pw_cell_below HB.out hx256_1; replace hx256_2 := pw_cell_below HB.out hx256_2; replace hx256_3 := pw_cell_below HB.out hx256_3; replace hx256_0 := (cell_far (p := ⟨gb255, 0, none⟩) (by first | (rw [add_block]; exact hn256_0) | (show (Addr.add _ _).block ≠ _; rw [add_block]; exact hn256_0) | exact hn256_0) (.string ((rd_T46 l0 a1).f1))).trans hx256_0; replace hx256_1 := (cell_far (p := ⟨gb255, 0, none⟩) (by first | (rw [add_block]; exact hn256_0) | (show (Addr.add _ _).block ≠ _; rw [add_block]; exact hn256_0) | exact hn256_0) (.string ((rd_T46 l0 a1).f1))).trans hx256_1; replace hx256_2 := (cell_far (p := ⟨gb255, 0, none⟩) (by first | (rw [add_block]; exact hn256_0) | (show (Addr.add _ _).block ≠ _; rw [add_block]; exact hn256_0) | exact hn256_0) (.string ((rd_T46 l0 a1).f1))).trans hx256_2; replace hx256_3 := (cell_far (p := ⟨gb255, 0, none⟩) (by first | (rw [add_block]; exact hn256_0) | (show (Addr.add _ _).block ≠ _; rw [add_block]; exact hn256_0) | exact hn256_0) (.string ((rd_T46 l0 a1).f1))).trans hx256_3; replace hx256_0 := (cell_far (p := ⟨gb255, 1, none⟩) (by first | (rw [add_block]; exact hn256_1) | (show (Addr.add _ _).block ≠ _; rw [add_block]; exact hn256_1) | exact hn256_1) (.slice none 0 0)).trans hx256_0; replace hx256_1 := (cell_far (p := ⟨gb255, 1, none⟩) (by first | (rw [add_block]; exact hn256_1) | (show (Addr.add _ _).block ≠ _; rw [add_block]; exact hn256_1) | exact hn256_1) (.slice none 0 0)).trans hx256_1; replace hx256_2 := (cell_far (p := ⟨gb255, 1, none⟩) (by first | (rw [add_block]; exact hn256_1) | (show (Addr.add _ _).block ≠ _; rw [add_block]; exact hn256_1) | exact hn256_1) (.slice none 0 0)).trans hx256_2; replace hx256_3 := (cell_far (p := ⟨gb255, 1, none⟩) (by first | (rw [add_block]; exact hn256_1) | (show (Addr.add _ _).block ≠ _; rw [add_block]; exact hn256_1) | exact hn256_1) (.slice none 0 0)).trans hx256_3; replace hx256_0 := (cell_far (p := ⟨gb255, 2, none⟩) (by first | (rw [add_block]; exact hn256_2) | (show (Addr.add _ _).block ≠ _; rw [add_block]; exact hn256_2) | exact hn256_2) (.bool false)).trans hx256_0; replace hx256_1 := (cell_far (p := ⟨gb255, 2, none⟩) (by first | (rw [add_block]; exact hn256_2) | (show (Addr.add _ _).block ≠ _; rw [add_block]; exact hn256_2) | exact hn256_2) (.bool false)).trans hx256_1; replace hx256_2 := (cell_far (p := ⟨gb255, 2, none⟩) (by first | (rw [add_block]; exact hn256_2) | (show (Addr.add _ _).block ≠ _; rw [add_block]; exact hn256_2) | exact hn256_2) (.bool false)).trans hx256_2; replace hx256_3 := (cell_far (p := ⟨gb255, 2, none⟩) (by first | (rw [add_block]; exact hn256_2) | (show (Addr.add _ _).block ≠ _; rw [add_block]; exact hn256_2) | exact hn256_2) (.bool false)).trans hx256_3; replace hx256_0 := (cell_far (p := ⟨gb255, 3, none⟩) (by first | (rw [add_block]; exact hn256_3) | (show (Addr.add _ _).block ≠ _; rw [add_block]; exact hn256_3) | exact hn256_3) (.slice none 0 0)).trans hx256_0; replace hx256_1 := (cell_far (p := ⟨gb255, 3, none⟩) (by first | (rw [add_block]; exact hn256_3) | (show (Addr.add _ _).block ≠ _; rw [add_block]; exact hn256_3) | exact hn256_3) (.slice none 0 0)).trans hx256_1; replace hx256_2 := (cell_far (p := ⟨gb255, 3, none⟩) (by first | (rw [add_block]; exact hn256_3) | (show (Addr.add _ _).block ≠ _; rw [add_block]; exact hn256_3) | exact hn256_3) (.slice none 0 0)).trans hx256_2; replace hx256_3 := (cell_far (p := ⟨gb255, 3, none⟩) (by first | (rw [add_block]; exact hn256_3) | (show (Addr.add _ _).block ≠ _; rw [add_block]; exact hn256_3) | exact hn256_3) (.slice none 0 0)).trans hx256_3; replace hx256_0 := (cell_far (p := ⟨gb255, 4, none⟩) (by first | (rw [add_block]; exact hn256_4) | (show (Addr.add _ _).block ≠ _; rw [add_block]; exact hn256_4) | exact hn256_4) (.int .i64 ((rd_T46 l0 a1).f3))).trans hx256_0; replace hx256_1 := (cell_far (p := ⟨gb255, 4, none⟩) (by first | (rw [add_block]; exact hn256_4) | (show (Addr.add _ _).block ≠ _; rw [add_block]; exact hn256_4) | exact hn256_4) (.int .i64 ((rd_T46 l0 a1).f3))).trans hx256_1; replace hx256_2 := (cell_far (p := ⟨gb255, 4, none⟩) (by first | (rw [add_block]; exact hn256_4) | (show (Addr.add _ _).block ≠ _; rw [add_block]; exact hn256_4) | exact hn256_4) (.int .i64 ((rd_T46 l0 a1).f3))).trans hx256_2; replace hx256_3 := (cell_far (p := ⟨gb255, 4, none⟩) (by first | (rw [add_block]; exact hn256_4) | (show (Addr.add _ _).block ≠ _; rw [add_block]; exact hn256_4) | exact hn256_4) (.int .i64 ((rd_T46 l0 a1).f3))).trans hx256_3; clear hn256_0; clear hn256_1; clear hn256_2; clear hn256_3; clear hn256_4; replace p256 := eq_true p256; replace q256 := eq_true q256
  try go_wp2
  have n0_ : Aside0 ((((((w140.setCell ⟨gb255, 0, none⟩ (.string ((rd_T46 l0 a1).f1))).setCell ⟨gb255, 1, none⟩ (.slice none 0 0)).setCell ⟨gb255, 2, none⟩ (.bool false)).setCell ⟨gb255, 3, none⟩ (.slice none 0 0)).setCell ⟨gb255, 4, none⟩ (.int .i64 ((rd_T46 l0 a1).f3))).heap[gb251]? = some (.cells #[.string (⟨#[]⟩ : ByteArray), .slice none 0 0, .bool false, .slice none 0 0, .int .i64 0] 41 (0, 0))) := ⟨far5_ (bk_ BK251.out) NB251_255.out⟩; have n1_ : Aside0 ((((((w140.setCell ⟨gb255, 0, none⟩ (.string ((rd_T46 l0 a1).f1))).setCell ⟨gb255, 1, none⟩ (.slice none 0 0)).setCell ⟨gb255, 2, none⟩ (.bool false)).setCell ⟨gb255, 3, none⟩ (.slice none 0 0)).setCell ⟨gb255, 4, none⟩ (.int .i64 ((rd_T46 l0 a1).f3))).heap[gb252]? = some (.cells #[.int .i64 0, .int .i64 0] 26 (0, 0))) := ⟨far5_ (bk_ BK252.out) NB252_255.out⟩; have n2_ : Aside0 ((((((w140.setCell ⟨gb255, 0, none⟩ (.string ((rd_T46 l0 a1).f1))).setCell ⟨gb255, 1, none⟩ (.slice none 0 0)).setCell ⟨gb255, 2, none⟩ (.bool false)).setCell ⟨gb255, 3, none⟩ (.slice none 0 0)).setCell ⟨gb255, 4, none⟩ (.int .i64 ((rd_T46 l0 a1).f3))).heap[gb255]? = some (.cells #[.string ((rd_T46 l0 a1).f1), .slice none 0 0, .bool false, .slice none 0 0, .int .i64 ((rd_T46 l0 a1).f3)] 41 (0, 0))) := ⟨put5_ (bk_ BK255.out)⟩; have n3_ : Aside0 (Below w.heap.size w (((((w140.setCell ⟨gb255, 0, none⟩ (.string ((rd_T46 l0 a1).f1))).setCell ⟨gb255, 1, none⟩ (.slice none 0 0)).setCell ⟨gb255, 2, none⟩ (.bool false)).setCell ⟨gb255, 3, none⟩ (.slice none 0 0)).setCell ⟨gb255, 4, none⟩ (.int .i64 ((rd_T46 l0 a1).f3)))) := ⟨bl3_ HB.out GE251.out GE252.out GE255.out⟩; (try clear BK251); (try clear BK252); (try clear BK255); (try clear HB); generalize (((((w140.setCell ⟨gb255, 0, none⟩ (.string ((rd_T46 l0 a1).f1))).setCell ⟨gb255, 1, none⟩ (.slice none 0 0)).setCell ⟨gb255, 2, none⟩ (.bool false)).setCell ⟨gb255, 3, none⟩ (.slice none 0 0)).setCell ⟨gb255, 4, none⟩ (.int .i64 ((rd_T46 l0 a1).f3))) = w146 at n0_ n1_ n2_ n3_ ⊢; have BK251 := n0_; have BK252 := n1_; have BK255 := n2_; have HB := n3_; clear n0_ n1_ n2_ n3_; refine cut4_ (blk_drew BK251.out) (blk_drew BK252.out) (blk_drew BK255.out) (below_drew1 HB.out) ?_; clear BK251 BK252 BK255 HB; intro BK251 BK252 BK255 HB; obtain ⟨p257, q257, ad257, e257, hw257_0, hw257_1, hw257_2, hw257_3, hx257_0, hx257_1, hx257_2, hx257_3⟩ := ab46_ HB.out HR0.out a1; obtain rfl : ad253 = ad257 := (by injection e257); refine start_ (n := 11) (S := fun w' => w'.cell? ⟨gb255, 0, none⟩ = some (.string ((rd_T46 l0 a1).f1)) ∧ w'.cell? ⟨gb255, 1, none⟩ = some (.slice none 0 0) ∧ w'.cell? ⟨gb255, 2, none⟩ = some (.bool false) ∧ w'.cell? ⟨gb255, 3, none⟩ = some (.slice none 0 0) ∧ w'.cell? ⟨gb255, 4, none⟩ = some (.int .i64 ((rd_T46 l0 a1).f3)) ∧ w'.cell? (ad253.add ((a1).toNat * 4)) = some (.int .i64 ((rd_T46 l0 a1).f0)) ∧ w'.cell? ⟨(ad253.add ((a1).toNat * 4)).block, (ad253.add ((a1).toNat * 4)).off + 1, none⟩ = some (.string ((rd_T46 l0 a1).f1)) ∧ w'.cell? ⟨(ad253.add ((a1).toNat * 4)).block, (ad253.add ((a1).toNat * 4)).off + 2, none⟩ = some (.int .i64 ((rd_T46 l0 a1).f2)) ∧ w'.cell? ⟨(ad253.add ((a1).toNat * 4)).block, (ad253.add ((a1).toNat * 4)).off + 3, none⟩ = some (.int .i64 ((rd_T46 l0 a1).f3))) (ds := []) (bm_ 11 0) (by kernel_rfl) rfl (by kernel_rfl) ⟨ce_ BK255.out 0, ce_ BK255.out 1, ce_ BK255.out 2, ce_ BK255.out 3, ce_ BK255.out 4, (pw_cell_below HB.out hw257_0), (pw_cell_below HB.out hw257_1), (pw_cell_below HB.out hw257_2), (pw_cell_below HB.out hw257_3)⟩ (fun hHeld => ?_); refine with_tabW salchowref10_entry.tab3 salchowref10_entry.bits3 (fun HT_ HW_ => ?_); generalize w146.drew = w147 at BK251 BK252 BK255 HB hx257_0 hx257_1 hx257_2 hx257_3 hHeld ⊢; refine pt_ HT_.out (i := 1) (N := some 31) (bm_ 11 2) ?_; refine pt_ HT_.out (i := 2) (N := some 32) (bm_ 11 6) ?_; refine pt_ HT_.out (i := 3) (N := some 33) (bm_ 11 14) ?_; refine pt_ HT_.out (i := 4) (N := some 34) (bm_ 11 30) ?_; refine pt_ HT_.out (i := 5) (N := some 35) (bm_ 11 62) ?_; refine tw_ HT_.out HW_.out hHeld (i := 0) (N := some 30) (bm_ 11 63) ?_; refine tw_ HT_.out HW_.out hHeld (i := 6) (N := some 36) (bm_ 11 127) ?_; refine pt_ HT_.out (i := 7) (N := some 37) (bm_ 11 255) ?_; refine on_ HT_.out (i := 8) (N := none) (bm_ 11 511) (fun K hK => ?_); have hs148 : w147.cell? ⟨gb251, 0, none⟩ = some (.string (⟨#[]⟩ : ByteArray)) := (blk_cell BK251.out 0).trans rfl; have hfs148 := blk_frozen BK251.out 0; have hns148_1 := NB252_251.out; have hns148_2 := NB255_251.out; have hms148_1 := NB251_252.out; have hms148_2 := NB251_255.out; have hs149 : w147.cell? ⟨gb251, 1, none⟩ = some (.slice none 0 0) := (blk_cell BK251.out 1).trans rfl; have hfs149 := blk_frozen BK251.out 1; have hns149_1 := NB252_251.out; have hns149_2 := NB255_251.out; have hms149_1 := NB251_252.out; have hms149_2 := NB251_255.out; have hs150 : w147.cell? ⟨gb251, 2, none⟩ = some (.bool false) := (blk_cell BK251.out 2).trans rfl; have hfs150 := blk_frozen BK251.out 2; have hns150_1 := NB252_251.out; have hns150_2 := NB255_251.out; have hms150_1 := NB251_252.out; have hms150_2 := NB251_255.out; have hs151 : w147.cell? ⟨gb251, 3, none⟩ = some (.slice none 0 0) := (blk_cell BK251.out 3).trans rfl; have hfs151 := blk_frozen BK251.out 3; have hns151_1 := NB252_251.out; have hns151_2 := NB255_251.out; have hms151_1 := NB251_252.out; have hms151_2 := NB251_255.out; have hs152 : w147.cell? ⟨gb251, 4, none⟩ = some (.int .i64 0) := (blk_cell BK251.out 4).trans rfl; have hfs152 := blk_frozen BK251.out 4; have hns152_1 := NB252_251.out; have hns152_2 := NB255_251.out; have hms152_1 := NB251_252.out; have hms152_2 := NB251_255.out; refine sk_ ?_; refine hK.out _ _ ⟨(cf5_ gb251 NB255_251.out hHeld.1), (cf5_ gb251 NB255_251.out hHeld.2.1), (cf5_ gb251 NB255_251.out hHeld.2.2.1), (cf5_ gb251 NB255_251.out hHeld.2.2.2.1), (cf5_ gb251 NB255_251.out hHeld.2.2.2.2.1), (cf5_ gb251 (fr_ hw257_0 GW251.out) hHeld.2.2.2.2.2.1), (cf5_ gb251 (fr_ hw257_1 GW251.out) hHeld.2.2.2.2.2.2.1), (cf5_ gb251 (fr_ hw257_2 GW251.out) hHeld.2.2.2.2.2.2.2.1), (cf5_ gb251 (fr_ hw257_3 GW251.out) hHeld.2.2.2.2.2.2.2.2)⟩ (fun hHeld => ?_); clear hK K; refine pt_ HT_.out (i := 9) (N := some 7) (bm_ 11 1023) ?_; refine on_ HT_.out (i := 10) (N := none) (bm_ 11 2047) (fun K hK => ?_); have hs153 : w147.cell? ⟨gb252, 0, none⟩ = some (.int .i64 0) := (blk_cell BK252.out 0).trans rfl; have hfs153 := blk_frozen BK252.out 0; have hns153_0 := NB251_252.out; have hns153_2 := NB255_252.out; have hms153_0 := NB252_251.out; have hms153_2 := NB252_255.out; have hs154 : w147.cell? ⟨gb252, 1, none⟩ = some (.int .i64 0) := (blk_cell BK252.out 1).trans rfl; have hfs154 := blk_frozen BK252.out 1; have hns154_0 := NB251_252.out; have hns154_2 := NB255_252.out; have hms154_0 := NB252_251.out; have hms154_2 := NB252_255.out; refine sk_ ?_; refine hK.out _ _ ⟨(cf2_ gb252 NB255_252.out hHeld.1), (cf2_ gb252 NB255_252.out hHeld.2.1), (cf2_ gb252 NB255_252.out hHeld.2.2.1), (cf2_ gb252 NB255_252.out hHeld.2.2.2.1), (cf2_ gb252 NB255_252.out hHeld.2.2.2.2.1), (cf2_ gb252 (fr_ hw257_0 GW252.out) hHeld.2.2.2.2.2.1), (cf2_ gb252 (fr_ hw257_1 GW252.out) hHeld.2.2.2.2.2.2.1), (cf2_ gb252 (fr_ hw257_2 GW252.out) hHeld.2.2.2.2.2.2.2.1), (cf2_ gb252 (fr_ hw257_3 GW252.out) hHeld.2.2.2.2.2.2.2.2)⟩ (fun hHeld => ?_); clear hK K; refine done_ (done_of HT_.out (by kernel_rfl)) ?_
  try go_wp2
  refine bodyPost_ret (results_list (rs := [.cell 6 41, .tmp 7, .cell 8 26]) rfl (by simp) (.cell gb251 41 #[.string ((rd_T46 l0 a1).f1), .slice none 0 0, .bool false, .slice none 0 0, .int .i64 ((rd_T46 l0 a1).f3)] (0, 0) _ rfl (by exact far2_ (put5_ (bk_ BK251.out)) NB251_252.out) Tryd.underlying41 rfl (by kernel_rfl) (.tmp (.cell gb252 26 #[.int .i64 2, .int .i64 ((rd_T46 l0 a1).f3)] (0, 0) _ rfl (by refine blk_put (cs := #[.int .i64 2, .int .i64 0]) ?_ 1 _ rfl; refine blk_put (cs := #[.int .i64 0, .int .i64 0]) ?_ 0 _ rfl; exact far5_ (bk_ BK252.out) NB252_251.out) Tryd.underlying26 rfl (by kernel_rfl) .nil)))) rfl ?_; exact ⟨_, _, er_, ni_, ni_, bl3_ HB.out GE251.out GE252.out GE255.out⟩
 have c6b0 := beq_iff_eq.mpr c6; have c6b1 := bne_eq_false_iff_eq.mpr c6; clear c6; have H' := Aside0.mk H; clear H
 go_enter Tryd.func53, Tryd.ntmps53
 try go_wp2_with (first | ((with_reducible refine gate_dst (N := 6) rfl ?_); refine bx_ (N := 6) (cs := #[.string (⟨#[]⟩ : ByteArray), .slice none 0 0, .bool false, .slice none 0 0, .int .i64 0]) (t := 41) ?_; intro gb251 hg w7 hbox hb; refine cut4_ (below_step (bl_ HB.out) hb) (hbox) (bz_ (w := w) hg (bl_ HB.out)) (bz_ (w := w) hg (bl_ HB.out)) ?_; clear HB; intro HB BK251 GW251 GE251; clear hb hbox hg) | ((with_reducible refine gate_dst (N := 8) rfl ?_); refine bx_ (N := 8) (cs := #[.int .i64 0, .int .i64 0]) (t := 26) ?_; intro gb252 hg w8 hbox hb; refine cut7_ (bb_ BK251.out hb) (below_step (bl1_ HB.out GE251.out) hb) (hbox) (bz_ (w := w) hg (bl1_ HB.out GE251.out)) (bz_ (w := w) hg (bl1_ HB.out GE251.out)) (nl_ hg BK251.out) (ng_ hg BK251.out) ?_; clear BK251 HB; intro BK251 HB BK252 GW252 GE252 NB251_252 NB252_251; clear hb hbox hg))
 refine cut3_ (blk_drew BK251.out) (blk_drew BK252.out) (below_drew1 HB.out) ?_; clear BK251 BK252 HB; intro BK251 BK252 HB; obtain ⟨p253, q253, ad253, e253, hw253_0, hw253_1, hw253_2, hw253_3, hx253_0, hx253_1, hx253_2, hx253_3⟩ := ab46_ HB.out HR0.out a1; cases e253; obtain ⟨p254, q254, ad254, e254, hw254_0, hw254_1, hw254_2, hw254_3, hx254_0, hx254_1, hx254_2, hx254_3⟩ := ab46_ HB.out HR0.out a1; obtain rfl : ad253 = ad254 := (by injection e254); refine start_ (n := 13) (S := fun w' => w'.cell? (ad253.add ((a1).toNat * 4)) = some (.int .i64 ((rd_T46 l0 a1).f0)) ∧ w'.cell? ⟨(ad253.add ((a1).toNat * 4)).block, (ad253.add ((a1).toNat * 4)).off + 1, none⟩ = some (.string ((rd_T46 l0 a1).f1)) ∧ w'.cell? ⟨(ad253.add ((a1).toNat * 4)).block, (ad253.add ((a1).toNat * 4)).off + 2, none⟩ = some (.int .i64 ((rd_T46 l0 a1).f2)) ∧ w'.cell? ⟨(ad253.add ((a1).toNat * 4)).block, (ad253.add ((a1).toNat * 4)).off + 3, none⟩ = some (.int .i64 ((rd_T46 l0 a1).f3)) ∧ w'.cell? (ad253.add ((a1).toNat * 4)) = some (.int .i64 ((rd_T46 l0 a1).f0)) ∧ w'.cell? ⟨(ad253.add ((a1).toNat * 4)).block, (ad253.add ((a1).toNat * 4)).off + 1, none⟩ = some (.string ((rd_T46 l0 a1).f1)) ∧ w'.cell? ⟨(ad253.add ((a1).toNat * 4)).block, (ad253.add ((a1).toNat * 4)).off + 2, none⟩ = some (.int .i64 ((rd_T46 l0 a1).f2)) ∧ w'.cell? ⟨(ad253.add ((a1).toNat * 4)).block, (ad253.add ((a1).toNat * 4)).off + 3, none⟩ = some (.int .i64 ((rd_T46 l0 a1).f3))) (ds := []) (bm_ 13 0) (by kernel_rfl) rfl (by kernel_rfl) ⟨(pw_cell_below HB.out hw253_0), (pw_cell_below HB.out hw253_1), (pw_cell_below HB.out hw253_2), (pw_cell_below HB.out hw253_3), (pw_cell_below HB.out hw254_0), (pw_cell_below HB.out hw254_1), (pw_cell_below HB.out hw254_2), (pw_cell_below HB.out hw254_3)⟩ (fun hHeld => ?_); refine with_tabW salchowref10_entry.tab1 salchowref10_entry.bits1 (fun HT_ HW_ => ?_); generalize w8.drew = w9 at BK251 BK252 HB hx253_0 hx253_1 hx253_2 hx253_3 hx254_0 hx254_1 hx254_2 hx254_3 hHeld ⊢; refine pt_ HT_.out (i := 0) (N := some 13) (bm_ 13 1) ?_; refine pt_ HT_.out (i := 1) (N := some 14) (bm_ 13 3) ?_; refine pt_ HT_.out (i := 2) (N := some 15) (bm_ 13 7) ?_; refine pt_ HT_.out (i := 3) (N := some 16) (bm_ 13 15) ?_; refine pt_ HT_.out (i := 5) (N := some 18) (bm_ 13 47) ?_; refine pt_ HT_.out (i := 6) (N := some 19) (bm_ 13 111) ?_; refine pt_ HT_.out (i := 7) (N := some 20) (bm_ 13 239) ?_; refine pt_ HT_.out (i := 8) (N := some 21) (bm_ 13 495) ?_; refine tw_ HT_.out HW_.out hHeld (i := 4) (N := some 17) (bm_ 13 511) ?_; refine tw_ HT_.out HW_.out hHeld (i := 9) (N := some 22) (bm_ 13 1023) ?_; refine pt_ HT_.out (i := 10) (N := some 23) (bm_ 13 2047) ?_; refine on_ HT_.out (i := 11) (N := some 9) (bm_ 13 4095) (fun K hK => ?_); refine bs_ (N := 9) (cs := #[.string (⟨#[]⟩ : ByteArray), .slice none 0 0, .bool false, .slice none 0 0, .int .i64 0]) (t := 41) ?_; intro gb255 hg w10 hbox hb; refine cut10_ (bb_ BK251.out hb) (bb_ BK252.out hb) (below_step (bl2_ HB.out GE251.out GE252.out) hb) (hbox) (bz_ (w := w) hg (bl2_ HB.out GE251.out GE252.out)) (bz_ (w := w) hg (bl2_ HB.out GE251.out GE252.out)) (nl_ hg BK251.out) (ng_ hg BK251.out) (nl_ hg BK252.out) (ng_ hg BK252.out) ?_; clear BK251 BK252 HB; intro BK251 BK252 HB BK255 GW255 GE255 NB251_255 NB255_251 NB252_255 NB255_252; clear hb hbox hg; refine hK.out _ _ ⟨(pw_cell_below HB.out hw253_0), (pw_cell_below HB.out hw253_1), (pw_cell_below HB.out hw253_2), (pw_cell_below HB.out hw253_3), (pw_cell_below HB.out hw254_0), (pw_cell_below HB.out hw254_1), (pw_cell_below HB.out hw254_2), (pw_cell_below HB.out hw254_3)⟩ (fun hHeld => ?_); clear hK K; refine nm_ ?_; refine on_ HT_.out (i := 12) (N := none) (bm_ 13 8191) (fun K hK => ?_); have hs11 : w10.cell? ⟨gb255, 0, none⟩ = some (.string (⟨#[]⟩ : ByteArray)) := (blk_cell BK255.out 0).trans rfl; have hfs11 := blk_frozen BK255.out 0; have hns11_0 := NB251_255.out; have hns11_1 := NB252_255.out; have hms11_0 := NB255_251.out; have hms11_1 := NB255_252.out; have hs12 : w10.cell? ⟨gb255, 1, none⟩ = some (.slice none 0 0) := (blk_cell BK255.out 1).trans rfl; have hfs12 := blk_frozen BK255.out 1; have hns12_0 := NB251_255.out; have hns12_1 := NB252_255.out; have hms12_0 := NB255_251.out; have hms12_1 := NB255_252.out; have hs13 : w10.cell? ⟨gb255, 2, none⟩ = some (.bool false) := (blk_cell BK255.out 2).trans rfl; have hfs13 := blk_frozen BK255.out 2; have hns13_0 := NB251_255.out; have hns13_1 := NB252_255.out; have hms13_0 := NB255_251.out; have hms13_1 := NB255_252.out; have hs14 : w10.cell? ⟨gb255, 3, none⟩ = some (.slice none 0 0) := (blk_cell BK255.out 3).trans rfl; have hfs14 := blk_frozen BK255.out 3; have hns14_0 := NB251_255.out; have hns14_1 := NB252_255.out; have hms14_0 := NB255_251.out; have hms14_1 := NB255_252.out; have hs15 : w10.cell? ⟨gb255, 4, none⟩ = some (.int .i64 0) := (blk_cell BK255.out 4).trans rfl; have hfs15 := blk_frozen BK255.out 4; have hns15_0 := NB251_255.out; have hns15_1 := NB252_255.out; have hms15_0 := NB255_251.out; have hms15_1 := NB255_252.out; refine sk_ ?_; refine hK.out _ _ ⟨(cf5_ gb255 (fr_ hw253_0 GW255.out) hHeld.1), (cf5_ gb255 (fr_ hw253_1 GW255.out) hHeld.2.1), (cf5_ gb255 (fr_ hw253_2 GW255.out) hHeld.2.2.1), (cf5_ gb255 (fr_ hw253_3 GW255.out) hHeld.2.2.2.1), (cf5_ gb255 (fr_ hw254_0 GW255.out) hHeld.2.2.2.2.1), (cf5_ gb255 (fr_ hw254_1 GW255.out) hHeld.2.2.2.2.2.1), (cf5_ gb255 (fr_ hw254_2 GW255.out) hHeld.2.2.2.2.2.2.1), (cf5_ gb255 (fr_ hw254_3 GW255.out) hHeld.2.2.2.2.2.2.2)⟩ (fun hHeld => ?_); clear hK K; refine done_ (done_of HT_.out (by kernel_rfl)) ?_; have p256 : 0 ≤ (a1 : Int) := dt_; have q256 : a1 < (l0.length : Int) := dt_; obtain ⟨ad256, e256, hx256_0, hx256_1, hx256_2, hx256_3⟩ := at_T46 HR0.out a1 p256 q256; obtain rfl : ad253 = ad256 := (by injection e256); have hn256_0 : ad253.block ≠ gb255 := Nat.ne_of_lt (Nat.lt_of_lt_of_le (by have := World.block_lt_of_cell? _ _ hx256_0; first | rwa [add_block] at this | exact this) GW255.out); have hn256_1 : ad253.block ≠ gb255 := Nat.ne_of_lt (Nat.lt_of_lt_of_le (by have := World.block_lt_of_cell? _ _ hx256_0; first | rwa [add_block] at this | exact this) GW255.out); have hn256_2 : ad253.block ≠ gb255 := Nat.ne_of_lt (Nat.lt_of_lt_of_le (by have := World.block_lt_of_cell? _ _ hx256_0; first | rwa [add_block] at this | exact this) GW255.out); have hn256_3 : ad253.block ≠ gb255 := Nat.ne_of_lt (Nat.lt_of_lt_of_le (by have := World.block_lt_of_cell? _ _ hx256_0; first | rwa [add_block] at this | exact this) GW255.out); have hn256_4 : ad253.block ≠ gb255 := Nat.ne_of_lt (Nat.lt_of_lt_of_le (by have := World.block_lt_of_cell? _ _ hx256_0; first | rwa [add_block] at this | exact this) GW255.out); replace hx256_0 := pw_cell_below HB.out hx256_0; replace hx256_1 := pw_cell_below HB.out hx256_1; replace hx256_2 := pw_cell_below HB.out hx256_2; replace hx256_3 := pw_cell_below HB.out hx256_3; replace hx256_0 := (cell_far (p := ⟨gb255, 0, none⟩) (by first | (rw [add_block]; exact hn256_0) | (show (Addr.add _ _).block ≠ _; rw [add_block]; exact hn256_0) | exact hn256_0) (.string ((rd_T46 l0 a1).f1))).trans hx256_0; replace hx256_1 := (cell_far (p := ⟨gb255, 0, none⟩) (by first | (rw [add_block]; exact hn256_0) | (show (Addr.add _ _).block ≠ _; rw [add_block]; exact hn256_0) | exact hn256_0) (.string ((rd_T46 l0 a1).f1))).trans hx256_1; replace hx256_2 := (cell_far (p := ⟨gb255, 0, none⟩) (by first | (rw [add_block]; exact hn256_0) | (show (Addr.add _ _).block ≠ _; rw [add_block]; exact hn256_0) | exact hn256_0) (.string ((rd_T46 l0 a1).f1))).trans hx256_2; replace hx256_3 := (cell_far (p := ⟨gb255, 0, none⟩) (by first | (rw [add_block]; exact hn256_0) | (show (Addr.add _ _).block ≠ _; rw [add_block]; exact hn256_0) | exact hn256_0) (.string ((rd_T46 l0 a1).f1))).trans hx256_3; replace hx256_0 := (cell_far (p := ⟨gb255, 1, none⟩) (by first | (rw [add_block]; exact hn256_1) | (show (Addr.add _ _).block ≠ _; rw [add_block]; exact hn256_1) | exact hn256_1) (.slice none 0 0)).trans hx256_0; replace hx256_1 := (cell_far (p := ⟨gb255, 1, none⟩) (by first | (rw [add_block]; exact hn256_1) | (show (Addr.add _ _).block ≠ _; rw [add_block]; exact hn256_1) | exact hn256_1) (.slice none 0 0)).trans hx256_1; replace hx256_2 := (cell_far (p := ⟨gb255, 1, none⟩) (by first | (rw [add_block]; exact hn256_1) | (show (Addr.add _ _).block ≠ _; rw [add_block]; exact hn256_1) | exact hn256_1) (.slice none 0 0)).trans hx256_2; replace hx256_3 := (cell_far (p := ⟨gb255, 1, none⟩) (by first | (rw [add_block]; exact hn256_1) | (show (Addr.add _ _).block ≠ _; rw [add_block]; exact hn256_1) | exact hn256_1) (.slice none 0 0)).trans hx256_3; replace hx256_0 := (cell_far (p := ⟨gb255, 2, none⟩) (by first | (rw [add_block]; exact hn256_2) | (show (Addr.add _ _).block ≠ _; rw [add_block]; exact hn256_2) | exact hn256_2) (.bool false)).trans hx256_0; replace hx256_1 := (cell_far (p := ⟨gb255, 2, none⟩) (by first | (rw [add_block]; exact hn256_2) | (show (Addr.add _ _).block ≠ _; rw [add_block]; exact hn256_2) | exact hn256_2) (.bool false)).trans hx256_1; replace hx256_2 := (cell_far (p := ⟨gb255, 2, none⟩) (by first | (rw [add_block]; exact hn256_2) | (show (Addr.add _ _).block ≠ _; rw [add_block]; exact hn256_2) | exact hn256_2) (.bool false)).trans hx256_2; replace hx256_3 := (cell_far (p := ⟨gb255, 2, none⟩) (by first | (rw [add_block]; exact hn256_2) | (show (Addr.add _ _).block ≠ _; rw [add_block]; exact hn256_2) | exact hn256_2) (.bool false)).trans hx256_3; replace hx256_0 := (cell_far (p := ⟨gb255, 3, none⟩) (by first | (rw [add_block]; exact hn256_3) | (show (Addr.add _ _).block ≠ _; rw [add_block]; exact hn256_3) | exact hn256_3) (.slice none 0 0)).trans hx256_0; replace hx256_1 := (cell_far (p := ⟨gb255, 3, none⟩) (by first | (rw [add_block]; exact hn256_3) | (show (Addr.add _ _).block ≠ _; rw [add_block]; exact hn256_3) | exact hn256_3) (.slice none 0 0)).trans hx256_1; replace hx256_2 := (cell_far (p := ⟨gb255, 3, none⟩) (by first | (rw [add_block]; exact hn256_3) | (show (Addr.add _ _).block ≠ _; rw [add_block]; exact hn256_3) | exact hn256_3) (.slice none 0 0)).trans hx256_2; replace hx256_3 := (cell_far (p := ⟨gb255, 3, none⟩) (by first | (rw [add_block]; exact hn256_3) | (show (Addr.add _ _).block ≠ _; rw [add_block]; exact hn256_3) | exact hn256_3) (.slice none 0 0)).trans hx256_3; replace hx256_0 := (cell_far (p := ⟨gb255, 4, none⟩) (by first | (rw [add_block]; exact hn256_4) | (show (Addr.add _ _).block ≠ _; rw [add_block]; exact hn256_4) | exact hn256_4) (.int .i64 ((rd_T46 l0 a1).f3))).trans hx256_0; replace hx256_1 := (cell_far (p := ⟨gb255, 4, none⟩) (by first | (rw [add_block]; exact hn256_4) | (show (Addr.add _ _).block ≠ _; rw [add_block]; exact hn256_4) | exact hn256_4) (.int .i64 ((rd_T46 l0 a1).f3))).trans hx256_1; replace hx256_2 := (cell_far (p := ⟨gb255, 4, none⟩) (by first | (rw [add_block]; exact hn256_4) | (show (Addr.add _ _).block ≠ _; rw [add_block]; exact hn256_4) | exact hn256_4) (.int .i64 ((rd_T46 l0 a1).f3))).trans hx256_2; replace hx256_3 := (cell_far (p := ⟨gb255, 4, none⟩) (by first | (rw [add_block]; exact hn256_4) | (show (Addr.add _ _).block ≠ _; rw [add_block]; exact hn256_4) | exact hn256_4) (.int .i64 ((rd_T46 l0 a1).f3))).trans hx256_3; clear hn256_0; clear hn256_1; clear hn256_2; clear hn256_3; clear hn256_4; replace p256 := eq_true p256; replace q256 := eq_true q256
 try go_wp2
 go_loopg [1] k (fun kq v1 w' => ∃ (x1_1 : Int) (x256001_1 : List (S46)) (u256001 : Value), v1 = .int .i64 x1_1 ∧ Aside0 (salchowref10_entry.l0 kq l0 x1_1 a2 ((rd_T46 l0 a1).f1) x256001_1 false ((rd_T46 l0 a1).f3) = some (r1, r2, r3, r4, r5, r6, r7, r8)) ∧ Aside0 (kq ≤ k) ∧ Aside0 (Kd.R k46 46 w' w.heap.size (fun _ => True) u256001 x256001_1) ∧ Aside0 (w'.heap[gb251]? = some (.cells #[.string (⟨#[]⟩ : ByteArray), (.slice none 0 0), .bool false, (.slice none 0 0), .int .i64 0] 41 (0, 0))) ∧ Aside0 (w'.heap[gb252]? = some (.cells #[.int .i64 0, .int .i64 0] 26 (0, 0))) ∧ Aside0 (w'.heap[gb255]? = some (.cells #[.string ((rd_T46 l0 a1).f1), u256001, .bool false, (.slice none 0 0), .int .i64 ((rd_T46 l0 a1).f3)] 41 (0, 0))) ∧ Aside0 (Below w.heap.size w w'))
 case atStart => exact ⟨(wrap64 (a1 + 1)), (([] : List (S46))), (.slice none 0 0), sr_, H', ⟨Nat.le_refl _⟩, ⟨ni_⟩, ⟨far5_ (bk_ BK251.out) NB251_255.out⟩, ⟨far5_ (bk_ BK252.out) NB252_255.out⟩, ⟨put5_ (bk_ BK255.out)⟩, ⟨bl3_ HB.out GE251.out GE252.out GE255.out⟩⟩
 case round =>
  clear H'; (try clear c4); (try clear c4b0); (try clear c5); (try clear c5b0); (try clear c6); (try clear c6b0); (try clear c6b1); (try clear hx253_0); (try clear hx253_1); (try clear hx253_2); (try clear hx253_3); (try clear hx254_0); (try clear hx254_1); (try clear hx254_2); (try clear hx254_3); (try clear hx256_0); (try clear hx256_1); (try clear hx256_2); (try clear hx256_3); (try clear p253); (try clear p254); (try clear p256); (try clear q253); (try clear q254); (try clear q256); obtain ⟨x1_1, x256001_1, u256001, rfl, HA, HK1, HO_256001, BK251, BK252, BK255, HB⟩ := hrel; obtain _ | k1 := gk
  · exact absurd HA.out (by simp [salchowref10_entry.l0])
  have H := HA.out; clear HA; simp only [salchowref10_entry.l0] at H; replace H := gd_ H; obtain ⟨c16b0, H⟩ := H; replace H := gd_ H; obtain ⟨c17b0, H⟩ := H; replace H := bn_ H; obtain ⟨t259, A18, H⟩ := H; (try dsimp only at H); replace H := sb_ H; obtain ⟨rfl, H⟩ | ⟨rfl, H⟩ := H
  ·
   replace H := gp_ H; obtain ⟨c20, H⟩ := H; have LMc20 := Aside0.mk c20; clear c20; obtain ⟨y261, hy261⟩ : ∃ y_ : List (S46), y_ = (x256001_1 ++ [(⟨(rd_T46 l0 x1_1).f0, (rd_T46 l0 x1_1).f1, (rd_T46 l0 x1_1).f2, (rd_T46 l0 x1_1).f3⟩ : S46)]) := ⟨_, rfl⟩; replace H : (salchowref10_entry.l0 k1 l0 (wrap64 (x1_1 + 1)) a2 ((rd_T46 l0 a1).f1) y261 false ((rd_T46 l0 a1).f3)) = some (r1, r2, r3, r4, r5, r6, r7, r8) := by first | (rw [hy261]; with_reducible exact H) | (have H2_ := (Option.bind_some _ _).symm.trans H; rw [hy261]; with_reducible exact H2_) | (have H2_ := (Option.bind_some _ _).symm.trans H; with_reducible exact H2_) | with_reducible exact H | (rw [hy261]; exact H) | exact H
   have Ny261 := Aside0.mk hy261; clear hy261; have H' := Aside0.mk H; clear H; have p258 : 0 ≤ (x1_1 : Int) := dt_; have q258 : x1_1 < (l0.length : Int) := dt_; obtain ⟨ad258, e258, hx258_0, hx258_1, hx258_2, hx258_3⟩ := at_T46 HR0.out x1_1 p258 q258; obtain rfl : ad253 = ad258 := (by injection e258); replace hx258_0 := pw_cell_below HB.out hx258_0; replace hx258_1 := pw_cell_below HB.out hx258_1; replace hx258_2 := pw_cell_below HB.out hx258_2; replace hx258_3 := pw_cell_below HB.out hx258_3; replace p258 := eq_true p258; replace q258 := eq_true q258
   try go_wp2_with (first | ((with_reducible refine gate_callee (f := 79) rfl ?_); refine gk_ (some 44) Tryd.func79 (salchowref10_atom.calls ((rd_T46 l0 x1_1).f0) ((rd_T46 l0 x1_1).f1) ((rd_T46 l0 x1_1).f2) ((rd_T46 l0 x1_1).f3) true _ A18.out) ?_; rintro e w21 ⟨rfl, hb⟩; refine ⟨_, rfl, ?_⟩; refine cut5_ (Kd.R_below (rR_ HO_256001.out) hb) (bb_ BK251.out hb) (bb_ BK252.out hb) (bb_ BK255.out hb) (below_step (bl3_ HB.out GE251.out GE252.out GE255.out) hb) ?_; clear hb HO_256001 BK251 BK252 BK255 HB; intro HO_256001 BK251 BK252 BK255 HB))
   refine cut5_ (Kd.R_drew HO_256001.out) (blk_drew BK251.out) (blk_drew BK252.out) (blk_drew BK255.out) (below_drew1 HB.out) ?_; clear HO_256001 BK251 BK252 BK255 HB; intro HO_256001 BK251 BK252 BK255 HB; obtain ⟨p260, q260, ad260, e260, hw260_0, hw260_1, hw260_2, hw260_3, hx260_0, hx260_1, hx260_2, hx260_3⟩ := ab46_ HB.out HR0.out x1_1; obtain rfl : ad253 = ad260 := (by injection e260); refine start_ (n := 10) (S := fun w' => w'.cell? ⟨gb255, 0, none⟩ = some (.string ((rd_T46 l0 a1).f1)) ∧ w'.cell? ⟨gb255, 1, none⟩ = some (u256001) ∧ w'.cell? ⟨gb255, 2, none⟩ = some (.bool false) ∧ w'.cell? ⟨gb255, 3, none⟩ = some (.slice none 0 0) ∧ w'.cell? ⟨gb255, 4, none⟩ = some (.int .i64 ((rd_T46 l0 a1).f3)) ∧ w'.cell? (ad253.add ((x1_1).toNat * 4)) = some (.int .i64 ((rd_T46 l0 x1_1).f0)) ∧ w'.cell? ⟨(ad253.add ((x1_1).toNat * 4)).block, (ad253.add ((x1_1).toNat * 4)).off + 1, none⟩ = some (.string ((rd_T46 l0 x1_1).f1)) ∧ w'.cell? ⟨(ad253.add ((x1_1).toNat * 4)).block, (ad253.add ((x1_1).toNat * 4)).off + 2, none⟩ = some (.int .i64 ((rd_T46 l0 x1_1).f2)) ∧ w'.cell? ⟨(ad253.add ((x1_1).toNat * 4)).block, (ad253.add ((x1_1).toNat * 4)).off + 3, none⟩ = some (.int .i64 ((rd_T46 l0 x1_1).f3))) (ds := [9]) (bm_ 10 0) (by kernel_rfl) rfl (by kernel_rfl) ⟨ce_ BK255.out 0, ce_ BK255.out 1, ce_ BK255.out 2, ce_ BK255.out 3, ce_ BK255.out 4, (pw_cell_below HB.out hw260_0), (pw_cell_below HB.out hw260_1), (pw_cell_below HB.out hw260_2), (pw_cell_below HB.out hw260_3)⟩ (fun hHeld => ?_); refine with_tabW salchowref10_entry.tab6 salchowref10_entry.bits6 (fun HT_ HW_ => ?_); generalize w21.drew = w22 at HO_256001 BK251 BK252 BK255 HB hx260_0 hx260_1 hx260_2 hx260_3 hHeld ⊢; refine pt_ HT_.out (i := 0) (N := some 45) (bm_ 10 1) ?_; refine pt_ HT_.out (i := 2) (N := some 47) (bm_ 10 5) ?_; refine pt_ HT_.out (i := 3) (N := some 48) (bm_ 10 13) ?_; refine pt_ HT_.out (i := 4) (N := some 49) (bm_ 10 29) ?_; refine tw_ HT_.out HW_.out hHeld (i := 1) (N := some 46) (bm_ 10 31) ?_; refine tw_ HT_.out HW_.out hHeld (i := 5) (N := some 50) (bm_ 10 63) ?_; refine on_ HT_.out (i := 6) (N := some 51) (bm_ 10 127) (fun K hK => ?_); refine value_ (w1 := ?_) (v := ?_) (by rfl) rfl ?_ ?_
   rotate_left 2
   ·
    go_simp
    constructor
    ·
     rfl
    rfl
   refine hK.out _ _ ⟨ce_ (blk_alloc BK255.out _) 0, ce_ (blk_alloc BK255.out _) 1, ce_ (blk_alloc BK255.out _) 2, ce_ (blk_alloc BK255.out _) 3, ce_ (blk_alloc BK255.out _) 4, al_ ((pw_cell_below HB.out hw260_0)), al_ ((pw_cell_below HB.out hw260_1)), al_ ((pw_cell_below HB.out hw260_2)), al_ ((pw_cell_below HB.out hw260_3))⟩ (fun hHeld => ?_); clear hK K; refine nm_ ?_; refine on_ HT_.out (i := 7) (N := some 52) (bm_ 10 255) (fun K hK => ?_); refine Kd.R_append_step k46 (w0 := w) w.heap.size (by rfl) (.tmp 46) (.tmp 51) 31 46 (.agg #[(.int .i64 0), (.string ⟨#[]⟩), (.int .i64 0), (.int .i64 0)]) 40 rfl Tryd.underlying31 info46 rfl (by decide) (by omega) u256001 x256001_1 (⟨(rd_T46 l0 x1_1).f0, (rd_T46 l0 x1_1).f1, (rd_T46 l0 x1_1).f2, (rd_T46 l0 x1_1).f3⟩ : S46) [.int .i64 ((rd_T46 l0 x1_1).f0), .string ((rd_T46 l0 x1_1).f1), .int .i64 ((rd_T46 l0 x1_1).f2), .int .i64 ((rd_T46 l0 x1_1).f3)] (fun _ => True) (fun _ => False) rfl rfl ?aP (fun _ hk => hk.elim) ?aF ?aO ?aB ?aS ?aL ?_
   (case aP => exact k46_mkM _ _ _ (⟨(rd_T46 l0 x1_1).f0, (rd_T46 l0 x1_1).f1, (rd_T46 l0 x1_1).f2, (rd_T46 l0 x1_1).f3⟩ : S46))
   (case aB => exact (bl3_ HB.out GE251.out GE252.out GE255.out))
   (case aF => exact (fun _ _ => trivial))
   (case aO => exact (rR_ HO_256001.out))
   (case aS => exact (below_size (bl3_ HB.out GE251.out GE252.out GE255.out)))
   (case aL => have := LMc20.out; omega)
   intro v262 w23 ho hb hg hat; rw [← Ny261.out] at ho; refine cut5_ (blk_grown (g := gb251) (o := .cells #[.string (⟨#[]⟩ : ByteArray), .slice none 0 0, .bool false, .slice none 0 0, .int .i64 0] 41 (0, 0)) (bk_ BK251.out) hg (Kd.R_ne HO_256001.out BK251.out (by decide))) (blk_grown (g := gb252) (o := .cells #[.int .i64 0, .int .i64 0] 26 (0, 0)) (bk_ BK252.out) hg (Kd.R_ne HO_256001.out BK252.out (by decide))) (blk_grown (g := gb255) (o := .cells #[.string ((rd_T46 l0 a1).f1), u256001, .bool false, .slice none 0 0, .int .i64 ((rd_T46 l0 a1).f3)] 41 (0, 0)) (bk_ BK255.out) hg (Kd.R_ne HO_256001.out BK255.out (by decide))) (hb) (ho) ?_; clear BK251 BK252 BK255 HB HO_256001; intro BK251 BK252 BK255 HB HO263; clear ho hb hg hat; obtain ⟨Ao24, co24, eo24⟩ := Kd.R_slice HO263.out
   (first | subst eo24 | (injection eo24 with f1_ f2_ f3_; have f4_ := f1_.symm; have f5_ := f3_.symm; clear f1_ f2_ f3_; subst f4_; subst f5_))
   refine hK.out _ _ ⟨ce_ BK255.out 0, ce_ BK255.out 1, ce_ BK255.out 2, ce_ BK255.out 3, ce_ BK255.out 4, (pw_cell_below HB.out hw260_0), (pw_cell_below HB.out hw260_1), (pw_cell_below HB.out hw260_2), (pw_cell_below HB.out hw260_3)⟩ (fun hHeld => ?_); clear hK K; refine nm_ ?_; refine pt_ HT_.out (i := 8) (N := some 53) (bm_ 10 511) ?_; refine last_ (i := 9) (N := none) (bm_ 10 1023) rfl rfl (one_of HT_.out (by kernel_rfl)) (by decide) (fun K hK => ?_); have hs25 : w23.cell? ⟨gb255, 1, none⟩ = some (u256001) := (blk_cell BK255.out 1).trans rfl; have hfs25 := blk_frozen BK255.out 1; have hns25_0 := NB251_255.out; have hns25_1 := NB252_255.out; have hms25_0 := NB255_251.out; have hms25_1 := NB255_252.out; refine sk_ ?_; refine hK.out _ _ ?_; clear hK K; refine done_ (done_of HT_.out (by kernel_rfl)) ?_
   try go_wp2
   go_roundg k1
   case measure => have := HK1.out; omega
   case rel => exact ⟨(wrap64 (x1_1 + 1)), (y261), (.slice Ao24 y261.length co24), sr_, H', ⟨om_ HK1.out⟩, ⟨rR_ (Kd.R_mono (rf1_ gb255 (Kd.R_types HO263.out BK255.out (by decide))) (fun _ hk => trivial))⟩, ⟨far1_ (bk_ BK251.out) NB251_255.out⟩, ⟨far1_ (bk_ BK252.out) NB252_255.out⟩, ⟨by refine blk_put (cs := #[.string ((rd_T46 l0 a1).f1), u256001, .bool false, .slice none 0 0, .int .i64 ((rd_T46 l0 a1).f3)]) ?_ 1 _ rfl; exact bk_ BK255.out⟩, ⟨bl3_ HB.out GE251.out GE252.out GE255.out⟩⟩
  replace H := bn_ H; obtain ⟨t265, A26, H⟩ := H; (try dsimp only at H); replace H := sb_ H; obtain ⟨rfl, H⟩ | ⟨rfl, H⟩ := H
  ·
   simp only [Option.some.injEq, Prod.mk.injEq] at H; obtain ⟨rfl, rfl, rfl, rfl, rfl, rfl, rfl, rfl⟩ := H; have p258 : 0 ≤ (x1_1 : Int) := dt_; have q258 : x1_1 < (l0.length : Int) := dt_; obtain ⟨ad258, e258, hx258_0, hx258_1, hx258_2, hx258_3⟩ := at_T46 HR0.out x1_1 p258 q258; obtain rfl : ad253 = ad258 := (by injection e258); replace hx258_0 := pw_cell_below HB.out hx258_0; replace hx258_1 := pw_cell_below HB.out hx258_1; replace hx258_2 := pw_cell_below HB.out hx258_2; replace hx258_3 := pw_cell_below HB.out hx258_3; replace p258 := eq_true p258; replace q258 := eq_true q258
   go_wp2_with (first | ((with_reducible refine gate_callee (f := 79) rfl ?_); refine gk_ (some 44) Tryd.func79 (salchowref10_atom.calls ((rd_T46 l0 x1_1).f0) ((rd_T46 l0 x1_1).f1) ((rd_T46 l0 x1_1).f2) ((rd_T46 l0 x1_1).f3) false _ A18.out) ?_; rintro e w28 ⟨rfl, hb⟩; refine ⟨_, rfl, ?_⟩; refine cut5_ (Kd.R_below (rR_ HO_256001.out) hb) (bb_ BK251.out hb) (bb_ BK252.out hb) (bb_ BK255.out hb) (below_step (bl3_ HB.out GE251.out GE252.out GE255.out) hb) ?_; clear hb HO_256001 BK251 BK252 BK255 HB; intro HO_256001 BK251 BK252 BK255 HB; have p264 : 0 ≤ (x1_1 : Int) := dt_; have q264 : x1_1 < (l0.length : Int) := dt_; obtain ⟨ad264, e264, hx264_0, hx264_1, hx264_2, hx264_3⟩ := at_T46 HR0.out x1_1 p264 q264; obtain rfl : ad253 = ad264 := (by injection e264); replace hx264_0 := pw_cell_below HB.out hx264_0; replace hx264_1 := pw_cell_below HB.out hx264_1; replace hx264_2 := pw_cell_below HB.out hx264_2; replace hx264_3 := pw_cell_below HB.out hx264_3; replace p264 := eq_true p264; replace q264 := eq_true q264) | ((with_reducible refine gate_callee (f := 80) rfl ?_); refine gk_ (some 60) Tryd.func80 (salchowref10_sign.calls ((rd_T46 l0 x1_1).f0) ((rd_T46 l0 x1_1).f1) ((rd_T46 l0 x1_1).f2) ((rd_T46 l0 x1_1).f3) (⟨#[59]⟩ : ByteArray) true _ A26.out) ?_; rintro e w29 ⟨rfl, hb⟩; refine ⟨_, rfl, ?_⟩; refine cut5_ (Kd.R_below (rR_ HO_256001.out) hb) (bb_ BK251.out hb) (bb_ BK252.out hb) (bb_ BK255.out hb) (below_step (bl3_ HB.out GE251.out GE252.out GE255.out) hb) ?_; clear hb HO_256001 BK251 BK252 BK255 HB; intro HO_256001 BK251 BK252 BK255 HB; have hnb30 := NB255_251.out; have hnc30 := NB251_255.out; have hnb31 := NB255_252.out; have hnc31 := NB252_255.out; obtain ⟨hcz32_0, hcz32_1, hcz32_2, hcz32_3, hcz32_4, hfz32_0, hfz32_1, hfz32_2, hfz32_3, hfz32_4⟩ := cq5_ BK255.out; have hnb33 := NB251_252.out; have hnc33 := NB252_251.out; obtain ⟨hcz34_0, hcz34_1, hcz34_2, hcz34_3, hcz34_4, hfz34_0, hfz34_1, hfz34_2, hfz34_3, hfz34_4⟩ := cq5_ BK251.out; obtain ⟨Ao35, co35, eo35⟩ := Kd.R_slice HO_256001.out; subst eo35; obtain ⟨hcz36_0, hcz36_1, hfz36_0, hfz36_1⟩ := cq2_ BK252.out))
   refine bodyPost_ret (results_list (rs := [.cell 6 41, .tmp 7, .cell 8 26]) rfl (by simp) (.cell gb251 41 #[.string ((rd_T46 l0 a1).f1), .slice Ao35 x256001_1.length co35, .bool false, .slice none 0 0, .int .i64 ((rd_T46 l0 a1).f3)] (0, 0) _ rfl (by exact far2_ (put5_ (bk_ BK251.out)) NB251_252.out) Tryd.underlying41 rfl (by kernel_rfl) (.tmp (.cell gb252 26 #[.int .i64 0, .int .i64 0] (0, 0) _ rfl (by refine blk_put (cs := #[.int .i64 0, .int .i64 0]) ?_ 1 _ rfl; refine blk_put (cs := #[.int .i64 0, .int .i64 0]) ?_ 0 _ rfl; exact far5_ (bk_ BK252.out) NB252_251.out) Tryd.underlying26 rfl (by kernel_rfl) .nil)))) rfl ?_; exact ⟨_, _, er_, rR_ (Kd.R_mono (rf2_ gb252 (Kd.R_far (p := ⟨gb251, 4, none⟩) (Kd.R_far (p := ⟨gb251, 3, none⟩) (Kd.R_far (p := ⟨gb251, 2, none⟩) (Kd.R_far (p := ⟨gb251, 1, none⟩) (Kd.R_far (p := ⟨gb251, 0, none⟩) (Kd.R_types (Kd.R_types HO_256001.out BK251.out (by decide)) BK252.out (by decide)) (fun _ hk => hk.1.2) (.string ((rd_T46 l0 a1).f1))) (fun _ hk => hk.1.2) (.slice Ao35 x256001_1.length co35)) (fun _ hk => hk.1.2) (.bool false)) (fun _ hk => hk.1.2) (.slice none 0 0)) (fun _ hk => hk.1.2) (.int .i64 ((rd_T46 l0 a1).f3)))) (fun _ hk => trivial)), ni_, bl3_ HB.out GE251.out GE252.out GE255.out⟩
  replace H := bn_ H; obtain ⟨t267, A37, H⟩ := H; (try dsimp only at H); replace H := (sb_ H).symm; obtain ⟨rfl, H⟩ | ⟨rfl, H⟩ := H
  ·
   simp only [Option.some.injEq, Prod.mk.injEq] at H; obtain ⟨rfl, rfl, rfl, rfl, rfl, rfl, rfl, rfl⟩ := H; have p258 : 0 ≤ (x1_1 : Int) := dt_; have q258 : x1_1 < (l0.length : Int) := dt_; obtain ⟨ad258, e258, hx258_0, hx258_1, hx258_2, hx258_3⟩ := at_T46 HR0.out x1_1 p258 q258; obtain rfl : ad253 = ad258 := (by injection e258); replace hx258_0 := pw_cell_below HB.out hx258_0; replace hx258_1 := pw_cell_below HB.out hx258_1; replace hx258_2 := pw_cell_below HB.out hx258_2; replace hx258_3 := pw_cell_below HB.out hx258_3; replace p258 := eq_true p258; replace q258 := eq_true q258
   try go_wp2_with (first | ((with_reducible refine gate_callee (f := 79) rfl ?_); refine gk_ (some 44) Tryd.func79 (salchowref10_atom.calls ((rd_T46 l0 x1_1).f0) ((rd_T46 l0 x1_1).f1) ((rd_T46 l0 x1_1).f2) ((rd_T46 l0 x1_1).f3) false _ A18.out) ?_; rintro e w125 ⟨rfl, hb⟩; refine ⟨_, rfl, ?_⟩; refine cut5_ (Kd.R_below (rR_ HO_256001.out) hb) (bb_ BK251.out hb) (bb_ BK252.out hb) (bb_ BK255.out hb) (below_step (bl3_ HB.out GE251.out GE252.out GE255.out) hb) ?_; clear hb HO_256001 BK251 BK252 BK255 HB; intro HO_256001 BK251 BK252 BK255 HB; have p264 : 0 ≤ (x1_1 : Int) := dt_; have q264 : x1_1 < (l0.length : Int) := dt_; obtain ⟨ad264, e264, hx264_0, hx264_1, hx264_2, hx264_3⟩ := at_T46 HR0.out x1_1 p264 q264; obtain rfl : ad253 = ad264 := (by injection e264); replace hx264_0 := pw_cell_below HB.out hx264_0; replace hx264_1 := pw_cell_below HB.out hx264_1; replace hx264_2 := pw_cell_below HB.out hx264_2; replace hx264_3 := pw_cell_below HB.out hx264_3; replace p264 := eq_true p264; replace q264 := eq_true q264) | ((with_reducible refine gate_callee (f := 80) rfl ?_); refine gk_ (some 60) Tryd.func80 (salchowref10_sign.calls ((rd_T46 l0 x1_1).f0) ((rd_T46 l0 x1_1).f1) ((rd_T46 l0 x1_1).f2) ((rd_T46 l0 x1_1).f3) (⟨#[59]⟩ : ByteArray) false _ A26.out) ?_; rintro e w126 ⟨rfl, hb⟩; refine ⟨_, rfl, ?_⟩; refine cut5_ (Kd.R_below (rR_ HO_256001.out) hb) (bb_ BK251.out hb) (bb_ BK252.out hb) (bb_ BK255.out hb) (below_step (bl3_ HB.out GE251.out GE252.out GE255.out) hb) ?_; clear hb HO_256001 BK251 BK252 BK255 HB; intro HO_256001 BK251 BK252 BK255 HB; have p266 : 0 ≤ (x1_1 : Int) := dt_; have q266 : x1_1 < (l0.length : Int) := dt_; obtain ⟨ad266, e266, hx266_0, hx266_1, hx266_2, hx266_3⟩ := at_T46 HR0.out x1_1 p266 q266; obtain rfl : ad253 = ad266 := (by injection e266); replace hx266_0 := pw_cell_below HB.out hx266_0; replace hx266_1 := pw_cell_below HB.out hx266_1; replace hx266_2 := pw_cell_below HB.out hx266_2; replace hx266_3 := pw_cell_below HB.out hx266_3; replace p266 := eq_true p266; replace q266 := eq_true q266) | ((with_reducible refine gate_callee (f := 80) rfl ?_); refine gk_ (some 69) Tryd.func80 (salchowref10_sign.calls ((rd_T46 l0 x1_1).f0) ((rd_T46 l0 x1_1).f1) ((rd_T46 l0 x1_1).f2) ((rd_T46 l0 x1_1).f3) (⟨#[123]⟩ : ByteArray) false _ A37.out) ?_; rintro e w127 ⟨rfl, hb⟩; refine ⟨_, rfl, ?_⟩; refine cut5_ (Kd.R_below (rR_ HO_256001.out) hb) (bb_ BK251.out hb) (bb_ BK252.out hb) (bb_ BK255.out hb) (below_step (bl3_ HB.out GE251.out GE252.out GE255.out) hb) ?_; clear hb HO_256001 BK251 BK252 BK255 HB; intro HO_256001 BK251 BK252 BK255 HB))
   refine cut5_ (Kd.R_drew HO_256001.out) (blk_drew BK251.out) (blk_drew BK252.out) (blk_drew BK255.out) (below_drew1 HB.out) ?_; clear HO_256001 BK251 BK252 BK255 HB; intro HO_256001 BK251 BK252 BK255 HB; obtain ⟨p268, q268, ad268, e268, hw268_0, hw268_1, hw268_2, hw268_3, hx268_0, hx268_1, hx268_2, hx268_3⟩ := ab46_ HB.out HR0.out x1_1; obtain rfl : ad253 = ad268 := (by injection e268); obtain ⟨Ao130, co130, eo130⟩ := Kd.R_slice HO_256001.out
   (first | subst eo130 | (injection eo130 with f1_ f2_ f3_; have f4_ := f1_.symm; have f5_ := f3_.symm; clear f1_ f2_ f3_; subst f4_; subst f5_))
   refine start_ (n := 11) (S := fun w' => w'.cell? ⟨gb255, 0, none⟩ = some (.string ((rd_T46 l0 a1).f1)) ∧ w'.cell? ⟨gb255, 1, none⟩ = some (.slice Ao130 x256001_1.length co130) ∧ w'.cell? ⟨gb255, 2, none⟩ = some (.bool false) ∧ w'.cell? ⟨gb255, 3, none⟩ = some (.slice none 0 0) ∧ w'.cell? ⟨gb255, 4, none⟩ = some (.int .i64 ((rd_T46 l0 a1).f3)) ∧ w'.cell? (ad253.add ((x1_1).toNat * 4)) = some (.int .i64 ((rd_T46 l0 x1_1).f0)) ∧ w'.cell? ⟨(ad253.add ((x1_1).toNat * 4)).block, (ad253.add ((x1_1).toNat * 4)).off + 1, none⟩ = some (.string ((rd_T46 l0 x1_1).f1)) ∧ w'.cell? ⟨(ad253.add ((x1_1).toNat * 4)).block, (ad253.add ((x1_1).toNat * 4)).off + 2, none⟩ = some (.int .i64 ((rd_T46 l0 x1_1).f2)) ∧ w'.cell? ⟨(ad253.add ((x1_1).toNat * 4)).block, (ad253.add ((x1_1).toNat * 4)).off + 3, none⟩ = some (.int .i64 ((rd_T46 l0 x1_1).f3))) (ds := []) (bm_ 11 0) (by kernel_rfl) rfl (by kernel_rfl) ⟨ce_ BK255.out 0, ce_ BK255.out 1, ce_ BK255.out 2, ce_ BK255.out 3, ce_ BK255.out 4, (pw_cell_below HB.out hw268_0), (pw_cell_below HB.out hw268_1), (pw_cell_below HB.out hw268_2), (pw_cell_below HB.out hw268_3)⟩ (fun hHeld => ?_); refine with_tabW salchowref10_entry.tab11 salchowref10_entry.bits11 (fun HT_ HW_ => ?_); generalize w127.drew = w128 at HO_256001 BK251 BK252 BK255 HB hx268_0 hx268_1 hx268_2 hx268_3 hHeld ⊢; refine pt_ HT_.out (i := 1) (N := some 72) (bm_ 11 2) ?_; refine pt_ HT_.out (i := 2) (N := some 73) (bm_ 11 6) ?_; refine pt_ HT_.out (i := 3) (N := some 74) (bm_ 11 14) ?_; refine pt_ HT_.out (i := 4) (N := some 75) (bm_ 11 30) ?_; refine pt_ HT_.out (i := 5) (N := some 76) (bm_ 11 62) ?_; refine tw_ HT_.out HW_.out hHeld (i := 0) (N := some 71) (bm_ 11 63) ?_; refine tw_ HT_.out HW_.out hHeld (i := 6) (N := some 77) (bm_ 11 127) ?_; refine pt_ HT_.out (i := 7) (N := some 78) (bm_ 11 255) ?_; refine on_ HT_.out (i := 8) (N := none) (bm_ 11 511) (fun K hK => ?_); have hs129 : w128.cell? ⟨gb251, 0, none⟩ = some (.string (⟨#[]⟩ : ByteArray)) := (blk_cell BK251.out 0).trans rfl; have hfs129 := blk_frozen BK251.out 0; have hns129_1 := NB252_251.out; have hns129_2 := NB255_251.out; have hms129_1 := NB251_252.out; have hms129_2 := NB251_255.out; have hs131 : w128.cell? ⟨gb251, 1, none⟩ = some (.slice none 0 0) := (blk_cell BK251.out 1).trans rfl; have hfs131 := blk_frozen BK251.out 1; have hns131_1 := NB252_251.out; have hns131_2 := NB255_251.out; have hms131_1 := NB251_252.out; have hms131_2 := NB251_255.out; have hs132 : w128.cell? ⟨gb251, 2, none⟩ = some (.bool false) := (blk_cell BK251.out 2).trans rfl; have hfs132 := blk_frozen BK251.out 2; have hns132_1 := NB252_251.out; have hns132_2 := NB255_251.out; have hms132_1 := NB251_252.out; have hms132_2 := NB251_255.out; have hs133 : w128.cell? ⟨gb251, 3, none⟩ = some (.slice none 0 0) := (blk_cell BK251.out 3).trans rfl; have hfs133 := blk_frozen BK251.out 3; have hns133_1 := NB252_251.out; have hns133_2 := NB255_251.out; have hms133_1 := NB251_252.out; have hms133_2 := NB251_255.out; have hs134 : w128.cell? ⟨gb251, 4, none⟩ = some (.int .i64 0) := (blk_cell BK251.out 4).trans rfl; have hfs134 := blk_frozen BK251.out 4; have hns134_1 := NB252_251.out; have hns134_2 := NB255_251.out; have hms134_1 := NB251_252.out; have hms134_2 := NB251_255.out; refine sk_ ?_; refine hK.out _ _ ⟨(cf5_ gb251 NB255_251.out hHeld.1), (cf5_ gb251 NB255_251.out hHeld.2.1), (cf5_ gb251 NB255_251.out hHeld.2.2.1), (cf5_ gb251 NB255_251.out hHeld.2.2.2.1), (cf5_ gb251 NB255_251.out hHeld.2.2.2.2.1), (cf5_ gb251 (fr_ hw268_0 GW251.out) hHeld.2.2.2.2.2.1), (cf5_ gb251 (fr_ hw268_1 GW251.out) hHeld.2.2.2.2.2.2.1), (cf5_ gb251 (fr_ hw268_2 GW251.out) hHeld.2.2.2.2.2.2.2.1), (cf5_ gb251 (fr_ hw268_3 GW251.out) hHeld.2.2.2.2.2.2.2.2)⟩ (fun hHeld => ?_); clear hK K; refine pt_ HT_.out (i := 9) (N := some 7) (bm_ 11 1023) ?_; refine on_ HT_.out (i := 10) (N := none) (bm_ 11 2047) (fun K hK => ?_); have hs135 : w128.cell? ⟨gb252, 0, none⟩ = some (.int .i64 0) := (blk_cell BK252.out 0).trans rfl; have hfs135 := blk_frozen BK252.out 0; have hns135_0 := NB251_252.out; have hns135_2 := NB255_252.out; have hms135_0 := NB252_251.out; have hms135_2 := NB252_255.out; have hs136 : w128.cell? ⟨gb252, 1, none⟩ = some (.int .i64 0) := (blk_cell BK252.out 1).trans rfl; have hfs136 := blk_frozen BK252.out 1; have hns136_0 := NB251_252.out; have hns136_2 := NB255_252.out; have hms136_0 := NB252_251.out; have hms136_2 := NB252_255.out; refine sk_ ?_; refine hK.out _ _ ⟨(cf2_ gb252 NB255_252.out hHeld.1), (cf2_ gb252 NB255_252.out hHeld.2.1), (cf2_ gb252 NB255_252.out hHeld.2.2.1), (cf2_ gb252 NB255_252.out hHeld.2.2.2.1), (cf2_ gb252 NB255_252.out hHeld.2.2.2.2.1), (cf2_ gb252 (fr_ hw268_0 GW252.out) hHeld.2.2.2.2.2.1), (cf2_ gb252 (fr_ hw268_1 GW252.out) hHeld.2.2.2.2.2.2.1), (cf2_ gb252 (fr_ hw268_2 GW252.out) hHeld.2.2.2.2.2.2.2.1), (cf2_ gb252 (fr_ hw268_3 GW252.out) hHeld.2.2.2.2.2.2.2.2)⟩ (fun hHeld => ?_); clear hK K; refine done_ (done_of HT_.out (by kernel_rfl)) ?_
   try go_wp2
   refine bodyPost_ret (results_list (rs := [.cell 6 41, .tmp 7, .cell 8 26]) rfl (by simp) (.cell gb251 41 #[.string ((rd_T46 l0 a1).f1), .slice Ao130 x256001_1.length co130, .bool false, .slice none 0 0, .int .i64 ((rd_T46 l0 a1).f3)] (0, 0) _ rfl (by exact far2_ (put5_ (bk_ BK251.out)) NB251_252.out) Tryd.underlying41 rfl (by kernel_rfl) (.tmp (.cell gb252 26 #[.int .i64 2, .int .i64 ((rd_T46 l0 x1_1).f3)] (0, 0) _ rfl (by refine blk_put (cs := #[.int .i64 2, .int .i64 0]) ?_ 1 _ rfl; refine blk_put (cs := #[.int .i64 0, .int .i64 0]) ?_ 0 _ rfl; exact far5_ (bk_ BK252.out) NB252_251.out) Tryd.underlying26 rfl (by kernel_rfl) .nil)))) rfl ?_; exact ⟨_, _, er_, rR_ (Kd.R_mono (rf2_ gb252 (Kd.R_far (p := ⟨gb251, 4, none⟩) (Kd.R_far (p := ⟨gb251, 3, none⟩) (Kd.R_far (p := ⟨gb251, 2, none⟩) (Kd.R_far (p := ⟨gb251, 1, none⟩) (Kd.R_far (p := ⟨gb251, 0, none⟩) (Kd.R_types (Kd.R_types HO_256001.out BK251.out (by decide)) BK252.out (by decide)) (fun _ hk => hk.1.2) (.string ((rd_T46 l0 a1).f1))) (fun _ hk => hk.1.2) (.slice Ao130 x256001_1.length co130)) (fun _ hk => hk.1.2) (.bool false)) (fun _ hk => hk.1.2) (.slice none 0 0)) (fun _ hk => hk.1.2) (.int .i64 ((rd_T46 l0 a1).f3)))) (fun _ hk => trivial)), ni_, bl3_ HB.out GE251.out GE252.out GE255.out⟩
  replace H := sp_ H; obtain ⟨c39, H⟩ | ⟨c39, H⟩ := H
  ·
   have c39b0 := beq_iff_eq.mpr c39; have c39b1 := bne_eq_false_iff_eq.mpr c39; clear c39; simp only [Option.some.injEq, Prod.mk.injEq] at H; obtain ⟨rfl, rfl, rfl, rfl, rfl, rfl, rfl, rfl⟩ := H; have p258 : 0 ≤ (x1_1 : Int) := dt_; have q258 : x1_1 < (l0.length : Int) := dt_; obtain ⟨ad258, e258, hx258_0, hx258_1, hx258_2, hx258_3⟩ := at_T46 HR0.out x1_1 p258 q258; obtain rfl : ad253 = ad258 := (by injection e258); replace hx258_0 := pw_cell_below HB.out hx258_0; replace hx258_1 := pw_cell_below HB.out hx258_1; replace hx258_2 := pw_cell_below HB.out hx258_2; replace hx258_3 := pw_cell_below HB.out hx258_3; replace p258 := eq_true p258; replace q258 := eq_true q258
   try go_wp2_with (first | ((with_reducible refine gate_callee (f := 79) rfl ?_); refine gk_ (some 44) Tryd.func79 (salchowref10_atom.calls ((rd_T46 l0 x1_1).f0) ((rd_T46 l0 x1_1).f1) ((rd_T46 l0 x1_1).f2) ((rd_T46 l0 x1_1).f3) false _ A18.out) ?_; rintro e w40 ⟨rfl, hb⟩; refine ⟨_, rfl, ?_⟩; refine cut5_ (Kd.R_below (rR_ HO_256001.out) hb) (bb_ BK251.out hb) (bb_ BK252.out hb) (bb_ BK255.out hb) (below_step (bl3_ HB.out GE251.out GE252.out GE255.out) hb) ?_; clear hb HO_256001 BK251 BK252 BK255 HB; intro HO_256001 BK251 BK252 BK255 HB; have p264 : 0 ≤ (x1_1 : Int) := dt_; have q264 : x1_1 < (l0.length : Int) := dt_; obtain ⟨ad264, e264, hx264_0, hx264_1, hx264_2, hx264_3⟩ := at_T46 HR0.out x1_1 p264 q264; obtain rfl : ad253 = ad264 := (by injection e264); replace hx264_0 := pw_cell_below HB.out hx264_0; replace hx264_1 := pw_cell_below HB.out hx264_1; replace hx264_2 := pw_cell_below HB.out hx264_2; replace hx264_3 := pw_cell_below HB.out hx264_3; replace p264 := eq_true p264; replace q264 := eq_true q264) | ((with_reducible refine gate_callee (f := 80) rfl ?_); refine gk_ (some 60) Tryd.func80 (salchowref10_sign.calls ((rd_T46 l0 x1_1).f0) ((rd_T46 l0 x1_1).f1) ((rd_T46 l0 x1_1).f2) ((rd_T46 l0 x1_1).f3) (⟨#[59]⟩ : ByteArray) false _ A26.out) ?_; rintro e w41 ⟨rfl, hb⟩; refine ⟨_, rfl, ?_⟩; refine cut5_ (Kd.R_below (rR_ HO_256001.out) hb) (bb_ BK251.out hb) (bb_ BK252.out hb) (bb_ BK255.out hb) (below_step (bl3_ HB.out GE251.out GE252.out GE255.out) hb) ?_; clear hb HO_256001 BK251 BK252 BK255 HB; intro HO_256001 BK251 BK252 BK255 HB; have p266 : 0 ≤ (x1_1 : Int) := dt_; have q266 : x1_1 < (l0.length : Int) := dt_; obtain ⟨ad266, e266, hx266_0, hx266_1, hx266_2, hx266_3⟩ := at_T46 HR0.out x1_1 p266 q266; obtain rfl : ad253 = ad266 := (by injection e266); replace hx266_0 := pw_cell_below HB.out hx266_0; replace hx266_1 := pw_cell_below HB.out hx266_1; replace hx266_2 := pw_cell_below HB.out hx266_2; replace hx266_3 := pw_cell_below HB.out hx266_3; replace p266 := eq_true p266; replace q266 := eq_true q266) | ((with_reducible refine gate_callee (f := 80) rfl ?_); refine gk_ (some 69) Tryd.func80 (salchowref10_sign.calls ((rd_T46 l0 x1_1).f0) ((rd_T46 l0 x1_1).f1) ((rd_T46 l0 x1_1).f2) ((rd_T46 l0 x1_1).f3) (⟨#[123]⟩ : ByteArray) true _ A37.out) ?_; rintro e w42 ⟨rfl, hb⟩; refine ⟨_, rfl, ?_⟩; refine cut5_ (Kd.R_below (rR_ HO_256001.out) hb) (bb_ BK251.out hb) (bb_ BK252.out hb) (bb_ BK255.out hb) (below_step (bl3_ HB.out GE251.out GE252.out GE255.out) hb) ?_; clear hb HO_256001 BK251 BK252 BK255 HB; intro HO_256001 BK251 BK252 BK255 HB))
   refine cut5_ (Kd.R_drew HO_256001.out) (blk_drew BK251.out) (blk_drew BK252.out) (blk_drew BK255.out) (below_drew1 HB.out) ?_; clear HO_256001 BK251 BK252 BK255 HB; intro HO_256001 BK251 BK252 BK255 HB; obtain ⟨p269, q269, ad269, e269, hw269_0, hw269_1, hw269_2, hw269_3, hx269_0, hx269_1, hx269_2, hx269_3⟩ := ab46_ HB.out HR0.out x1_1; obtain rfl : ad253 = ad269 := (by injection e269); obtain ⟨Ao45, co45, eo45⟩ := Kd.R_slice HO_256001.out
   (first | subst eo45 | (injection eo45 with f1_ f2_ f3_; have f4_ := f1_.symm; have f5_ := f3_.symm; clear f1_ f2_ f3_; subst f4_; subst f5_))
   refine start_ (n := 11) (S := fun w' => w'.cell? ⟨gb255, 0, none⟩ = some (.string ((rd_T46 l0 a1).f1)) ∧ w'.cell? ⟨gb255, 1, none⟩ = some (.slice Ao45 x256001_1.length co45) ∧ w'.cell? ⟨gb255, 2, none⟩ = some (.bool false) ∧ w'.cell? ⟨gb255, 3, none⟩ = some (.slice none 0 0) ∧ w'.cell? ⟨gb255, 4, none⟩ = some (.int .i64 ((rd_T46 l0 a1).f3)) ∧ w'.cell? (ad253.add ((x1_1).toNat * 4)) = some (.int .i64 ((rd_T46 l0 x1_1).f0)) ∧ w'.cell? ⟨(ad253.add ((x1_1).toNat * 4)).block, (ad253.add ((x1_1).toNat * 4)).off + 1, none⟩ = some (.string ((rd_T46 l0 x1_1).f1)) ∧ w'.cell? ⟨(ad253.add ((x1_1).toNat * 4)).block, (ad253.add ((x1_1).toNat * 4)).off + 2, none⟩ = some (.int .i64 ((rd_T46 l0 x1_1).f2)) ∧ w'.cell? ⟨(ad253.add ((x1_1).toNat * 4)).block, (ad253.add ((x1_1).toNat * 4)).off + 3, none⟩ = some (.int .i64 ((rd_T46 l0 x1_1).f3))) (ds := []) (bm_ 11 0) (by kernel_rfl) rfl (by kernel_rfl) ⟨ce_ BK255.out 0, ce_ BK255.out 1, ce_ BK255.out 2, ce_ BK255.out 3, ce_ BK255.out 4, (pw_cell_below HB.out hw269_0), (pw_cell_below HB.out hw269_1), (pw_cell_below HB.out hw269_2), (pw_cell_below HB.out hw269_3)⟩ (fun hHeld => ?_); refine with_tabW salchowref10_entry.tab13 salchowref10_entry.bits13 (fun HT_ HW_ => ?_); generalize w42.drew = w43 at HO_256001 BK251 BK252 BK255 HB hx269_0 hx269_1 hx269_2 hx269_3 hHeld ⊢; refine pt_ HT_.out (i := 1) (N := some 82) (bm_ 11 2) ?_; refine pt_ HT_.out (i := 2) (N := some 83) (bm_ 11 6) ?_; refine pt_ HT_.out (i := 3) (N := some 84) (bm_ 11 14) ?_; refine pt_ HT_.out (i := 4) (N := some 85) (bm_ 11 30) ?_; refine pt_ HT_.out (i := 5) (N := some 86) (bm_ 11 62) ?_; refine tw_ HT_.out HW_.out hHeld (i := 0) (N := some 81) (bm_ 11 63) ?_; refine tw_ HT_.out HW_.out hHeld (i := 6) (N := some 87) (bm_ 11 127) ?_; refine pt_ HT_.out (i := 7) (N := some 88) (bm_ 11 255) ?_; refine on_ HT_.out (i := 8) (N := none) (bm_ 11 511) (fun K hK => ?_); have hs44 : w43.cell? ⟨gb251, 0, none⟩ = some (.string (⟨#[]⟩ : ByteArray)) := (blk_cell BK251.out 0).trans rfl; have hfs44 := blk_frozen BK251.out 0; have hns44_1 := NB252_251.out; have hns44_2 := NB255_251.out; have hms44_1 := NB251_252.out; have hms44_2 := NB251_255.out; have hs46 : w43.cell? ⟨gb251, 1, none⟩ = some (.slice none 0 0) := (blk_cell BK251.out 1).trans rfl; have hfs46 := blk_frozen BK251.out 1; have hns46_1 := NB252_251.out; have hns46_2 := NB255_251.out; have hms46_1 := NB251_252.out; have hms46_2 := NB251_255.out; have hs47 : w43.cell? ⟨gb251, 2, none⟩ = some (.bool false) := (blk_cell BK251.out 2).trans rfl; have hfs47 := blk_frozen BK251.out 2; have hns47_1 := NB252_251.out; have hns47_2 := NB255_251.out; have hms47_1 := NB251_252.out; have hms47_2 := NB251_255.out; have hs48 : w43.cell? ⟨gb251, 3, none⟩ = some (.slice none 0 0) := (blk_cell BK251.out 3).trans rfl; have hfs48 := blk_frozen BK251.out 3; have hns48_1 := NB252_251.out; have hns48_2 := NB255_251.out; have hms48_1 := NB251_252.out; have hms48_2 := NB251_255.out; have hs49 : w43.cell? ⟨gb251, 4, none⟩ = some (.int .i64 0) := (blk_cell BK251.out 4).trans rfl; have hfs49 := blk_frozen BK251.out 4; have hns49_1 := NB252_251.out; have hns49_2 := NB255_251.out; have hms49_1 := NB251_252.out; have hms49_2 := NB251_255.out; refine sk_ ?_; refine hK.out _ _ ⟨(cf5_ gb251 NB255_251.out hHeld.1), (cf5_ gb251 NB255_251.out hHeld.2.1), (cf5_ gb251 NB255_251.out hHeld.2.2.1), (cf5_ gb251 NB255_251.out hHeld.2.2.2.1), (cf5_ gb251 NB255_251.out hHeld.2.2.2.2.1), (cf5_ gb251 (fr_ hw269_0 GW251.out) hHeld.2.2.2.2.2.1), (cf5_ gb251 (fr_ hw269_1 GW251.out) hHeld.2.2.2.2.2.2.1), (cf5_ gb251 (fr_ hw269_2 GW251.out) hHeld.2.2.2.2.2.2.2.1), (cf5_ gb251 (fr_ hw269_3 GW251.out) hHeld.2.2.2.2.2.2.2.2)⟩ (fun hHeld => ?_); clear hK K; refine pt_ HT_.out (i := 9) (N := some 7) (bm_ 11 1023) ?_; refine on_ HT_.out (i := 10) (N := none) (bm_ 11 2047) (fun K hK => ?_); have hs50 : w43.cell? ⟨gb252, 0, none⟩ = some (.int .i64 0) := (blk_cell BK252.out 0).trans rfl; have hfs50 := blk_frozen BK252.out 0; have hns50_0 := NB251_252.out; have hns50_2 := NB255_252.out; have hms50_0 := NB252_251.out; have hms50_2 := NB252_255.out; have hs51 : w43.cell? ⟨gb252, 1, none⟩ = some (.int .i64 0) := (blk_cell BK252.out 1).trans rfl; have hfs51 := blk_frozen BK252.out 1; have hns51_0 := NB251_252.out; have hns51_2 := NB255_252.out; have hms51_0 := NB252_251.out; have hms51_2 := NB252_255.out; refine sk_ ?_; refine hK.out _ _ ⟨(cf2_ gb252 NB255_252.out hHeld.1), (cf2_ gb252 NB255_252.out hHeld.2.1), (cf2_ gb252 NB255_252.out hHeld.2.2.1), (cf2_ gb252 NB255_252.out hHeld.2.2.2.1), (cf2_ gb252 NB255_252.out hHeld.2.2.2.2.1), (cf2_ gb252 (fr_ hw269_0 GW252.out) hHeld.2.2.2.2.2.1), (cf2_ gb252 (fr_ hw269_1 GW252.out) hHeld.2.2.2.2.2.2.1), (cf2_ gb252 (fr_ hw269_2 GW252.out) hHeld.2.2.2.2.2.2.2.1), (cf2_ gb252 (fr_ hw269_3 GW252.out) hHeld.2.2.2.2.2.2.2.2)⟩ (fun hHeld => ?_); clear hK K; refine done_ (done_of HT_.out (by kernel_rfl)) ?_
   try go_wp2
   refine bodyPost_ret (results_list (rs := [.cell 6 41, .tmp 7, .cell 8 26]) rfl (by simp) (.cell gb251 41 #[.string ((rd_T46 l0 a1).f1), .slice Ao45 x256001_1.length co45, .bool false, .slice none 0 0, .int .i64 ((rd_T46 l0 a1).f3)] (0, 0) _ rfl (by exact far2_ (put5_ (bk_ BK251.out)) NB251_252.out) Tryd.underlying41 rfl (by kernel_rfl) (.tmp (.cell gb252 26 #[.int .i64 6, .int .i64 ((rd_T46 l0 x1_1).f3)] (0, 0) _ rfl (by refine blk_put (cs := #[.int .i64 6, .int .i64 0]) ?_ 1 _ rfl; refine blk_put (cs := #[.int .i64 0, .int .i64 0]) ?_ 0 _ rfl; exact far5_ (bk_ BK252.out) NB252_251.out) Tryd.underlying26 rfl (by kernel_rfl) .nil)))) rfl ?_; exact ⟨_, _, er_, rR_ (Kd.R_mono (rf2_ gb252 (Kd.R_far (p := ⟨gb251, 4, none⟩) (Kd.R_far (p := ⟨gb251, 3, none⟩) (Kd.R_far (p := ⟨gb251, 2, none⟩) (Kd.R_far (p := ⟨gb251, 1, none⟩) (Kd.R_far (p := ⟨gb251, 0, none⟩) (Kd.R_types (Kd.R_types HO_256001.out BK251.out (by decide)) BK252.out (by decide)) (fun _ hk => hk.1.2) (.string ((rd_T46 l0 a1).f1))) (fun _ hk => hk.1.2) (.slice Ao45 x256001_1.length co45)) (fun _ hk => hk.1.2) (.bool false)) (fun _ hk => hk.1.2) (.slice none 0 0)) (fun _ hk => hk.1.2) (.int .i64 ((rd_T46 l0 a1).f3)))) (fun _ hk => trivial)), ni_, bl3_ HB.out GE251.out GE252.out GE255.out⟩
  have c39b0 := beq_eq_false_iff_ne.mpr c39; have c39b1 := bne_iff_ne.mpr c39; have H' := Aside0.mk H; clear H; have p258 : 0 ≤ (x1_1 : Int) := dt_; have q258 : x1_1 < (l0.length : Int) := dt_; obtain ⟨ad258, e258, hx258_0, hx258_1, hx258_2, hx258_3⟩ := at_T46 HR0.out x1_1 p258 q258; obtain rfl : ad253 = ad258 := (by injection e258); replace hx258_0 := pw_cell_below HB.out hx258_0; replace hx258_1 := pw_cell_below HB.out hx258_1; replace hx258_2 := pw_cell_below HB.out hx258_2; replace hx258_3 := pw_cell_below HB.out hx258_3; replace p258 := eq_true p258; replace q258 := eq_true q258
  go_wp2_with (first | ((with_reducible refine gate_callee (f := 79) rfl ?_); refine gk_ (some 44) Tryd.func79 (salchowref10_atom.calls ((rd_T46 l0 x1_1).f0) ((rd_T46 l0 x1_1).f1) ((rd_T46 l0 x1_1).f2) ((rd_T46 l0 x1_1).f3) false _ A18.out) ?_; rintro e w52 ⟨rfl, hb⟩; refine ⟨_, rfl, ?_⟩; refine cut5_ (Kd.R_below (rR_ HO_256001.out) hb) (bb_ BK251.out hb) (bb_ BK252.out hb) (bb_ BK255.out hb) (below_step (bl3_ HB.out GE251.out GE252.out GE255.out) hb) ?_; clear hb HO_256001 BK251 BK252 BK255 HB; intro HO_256001 BK251 BK252 BK255 HB; have p264 : 0 ≤ (x1_1 : Int) := dt_; have q264 : x1_1 < (l0.length : Int) := dt_; obtain ⟨ad264, e264, hx264_0, hx264_1, hx264_2, hx264_3⟩ := at_T46 HR0.out x1_1 p264 q264; obtain rfl : ad253 = ad264 := (by injection e264); replace hx264_0 := pw_cell_below HB.out hx264_0; replace hx264_1 := pw_cell_below HB.out hx264_1; replace hx264_2 := pw_cell_below HB.out hx264_2; replace hx264_3 := pw_cell_below HB.out hx264_3; replace p264 := eq_true p264; replace q264 := eq_true q264) | ((with_reducible refine gate_callee (f := 80) rfl ?_); refine gk_ (some 60) Tryd.func80 (salchowref10_sign.calls ((rd_T46 l0 x1_1).f0) ((rd_T46 l0 x1_1).f1) ((rd_T46 l0 x1_1).f2) ((rd_T46 l0 x1_1).f3) (⟨#[59]⟩ : ByteArray) false _ A26.out) ?_; rintro e w53 ⟨rfl, hb⟩; refine ⟨_, rfl, ?_⟩; refine cut5_ (Kd.R_below (rR_ HO_256001.out) hb) (bb_ BK251.out hb) (bb_ BK252.out hb) (bb_ BK255.out hb) (below_step (bl3_ HB.out GE251.out GE252.out GE255.out) hb) ?_; clear hb HO_256001 BK251 BK252 BK255 HB; intro HO_256001 BK251 BK252 BK255 HB; have p266 : 0 ≤ (x1_1 : Int) := dt_; have q266 : x1_1 < (l0.length : Int) := dt_; obtain ⟨ad266, e266, hx266_0, hx266_1, hx266_2, hx266_3⟩ := at_T46 HR0.out x1_1 p266 q266; obtain rfl : ad253 = ad266 := (by injection e266); replace hx266_0 := pw_cell_below HB.out hx266_0; replace hx266_1 := pw_cell_below HB.out hx266_1; replace hx266_2 := pw_cell_below HB.out hx266_2; replace hx266_3 := pw_cell_below HB.out hx266_3; replace p266 := eq_true p266; replace q266 := eq_true q266) | ((with_reducible refine gate_callee (f := 80) rfl ?_); refine gk_ (some 69) Tryd.func80 (salchowref10_sign.calls ((rd_T46 l0 x1_1).f0) ((rd_T46 l0 x1_1).f1) ((rd_T46 l0 x1_1).f2) ((rd_T46 l0 x1_1).f3) (⟨#[123]⟩ : ByteArray) true _ A37.out) ?_; rintro e w54 ⟨rfl, hb⟩; refine ⟨_, rfl, ?_⟩; refine cut5_ (Kd.R_below (rR_ HO_256001.out) hb) (bb_ BK251.out hb) (bb_ BK252.out hb) (bb_ BK255.out hb) (below_step (bl3_ HB.out GE251.out GE252.out GE255.out) hb) ?_; clear hb HO_256001 BK251 BK252 BK255 HB; intro HO_256001 BK251 BK252 BK255 HB; have hnb55 := NB255_251.out; have hnc55 := NB251_255.out; have hnb56 := NB255_252.out; have hnc56 := NB252_255.out; obtain ⟨hcz57_0, hcz57_1, hcz57_2, hcz57_3, hcz57_4, hfz57_0, hfz57_1, hfz57_2, hfz57_3, hfz57_4⟩ := cq5_ BK255.out))
  go_loopg [1] k1 (fun kq v1 w' => ∃ (x1_2 : Int) (x252000_2 : ByteArray) (x252002_2 : Bool) (x252004_2 : Int) (x253000_2 : Int) (x253001_2 : Int) (x256003_2 : List (S41)) (u256003 : Value), v1 = .int .i64 x1_2 ∧ Aside0 (salchowref10_entry.l1 kq l0 x1_2 a2 ((rd_T46 l0 a1).f1) x256001_1 true x256003_2 ((rd_T46 l0 a1).f3) = some (r1, r2, r3, r4, r5, r6, r7, r8)) ∧ Aside0 (kq ≤ k1) ∧ Aside0 (Kd.R k46 46 w' w.heap.size (fun _ => True) u256001 x256001_1) ∧ Aside0 (Kd.R k41 41 w' w.heap.size (fun k_ => some k_ ≠ (u256001 : Value).ownBlock ∧ k_ ≠ gb251 ∧ k_ ≠ gb255) u256003 x256003_2) ∧ Aside0 (w'.heap[gb251]? = some (.cells #[.string x252000_2, (.slice none 0 0), .bool x252002_2, (.slice none 0 0), .int .i64 x252004_2] 41 (0, 0))) ∧ Aside0 (w'.heap[gb252]? = some (.cells #[.int .i64 x253000_2, .int .i64 x253001_2] 26 (0, 0))) ∧ Aside0 (w'.heap[gb255]? = some (.cells #[.string ((rd_T46 l0 a1).f1), u256001, .bool true, u256003, .int .i64 ((rd_T46 l0 a1).f3)] 41 (0, 0))) ∧ Aside0 (Below w.heap.size w w'))
  case atStart => exact ⟨(wrap64 (x1_1 + 1)), ((⟨#[]⟩ : ByteArray)), (false), (0), (0), (0), (([] : List (S41))), (.slice none 0 0), sr_, H', ⟨Nat.le_refl _⟩, ⟨rR_ (Kd.R_mono (rf1_ gb255 (Kd.R_types HO_256001.out BK255.out (by decide))) (fun _ hk => trivial))⟩, ⟨ni_⟩, ⟨far1_ (bk_ BK251.out) NB251_255.out⟩, ⟨far1_ (bk_ BK252.out) NB252_255.out⟩, ⟨by refine blk_put (cs := #[.string ((rd_T46 l0 a1).f1), u256001, .bool false, .slice none 0 0, .int .i64 ((rd_T46 l0 a1).f3)]) ?_ 2 _ rfl; exact bk_ BK255.out⟩, ⟨bl3_ HB.out GE251.out GE252.out GE255.out⟩⟩
  case round =>
   clear H'; (try clear c4); (try clear c4b0); (try clear c5); (try clear c5b0); (try clear c6); (try clear c6b0); (try clear c6b1); (try clear c16); (try clear c16b0); (try clear c17); (try clear c17b0); (try clear c19); (try clear c27); (try clear c38); (try clear c39); (try clear c39b0); (try clear c39b1); (try clear hcz57_0); (try clear hcz57_1); (try clear hcz57_2); (try clear hcz57_3); (try clear hcz57_4); (try clear hfz57_0); (try clear hfz57_1); (try clear hfz57_2); (try clear hfz57_3); (try clear hfz57_4); (try clear hx253_0); (try clear hx253_1); (try clear hx253_2); (try clear hx253_3); (try clear hx254_0); (try clear hx254_1); (try clear hx254_2); (try clear hx254_3); (try clear hx256_0); (try clear hx256_1); (try clear hx256_2); (try clear hx256_3); (try clear hx258_0); (try clear hx258_1); (try clear hx258_2); (try clear hx258_3); (try clear hx264_0); (try clear hx264_1); (try clear hx264_2); (try clear hx264_3); (try clear hx266_0); (try clear hx266_1); (try clear hx266_2); (try clear hx266_3); (try clear p253); (try clear p254); (try clear p256); (try clear p258); (try clear p264); (try clear p266); (try clear q253); (try clear q254); (try clear q256); (try clear q258); (try clear q264); (try clear q266); obtain ⟨x1_2, x252000_2, x252002_2, x252004_2, x253000_2, x253001_2, x256003_2, u256003, rfl, HA, HK2, HO_256001, HO_256003, BK251, BK252, BK255, HB⟩ := hrel; obtain _ | k2 := gk
   · exact absurd HA.out (by simp [salchowref10_entry.l1])
   have H := HA.out; clear HA; simp only [salchowref10_entry.l1] at H; replace H := gd_ H; obtain ⟨c58b0, H⟩ := H; replace H := gd_ H; obtain ⟨c59b0, H⟩ := H; replace H := bn_ H; obtain ⟨t271, A60, H⟩ := H; (try dsimp only at H); replace H := sb_ H; obtain ⟨rfl, H⟩ | ⟨rfl, H⟩ := H
   ·
    simp only [Option.some.injEq, Prod.mk.injEq] at H; obtain ⟨rfl, rfl, rfl, rfl, rfl, rfl, rfl, rfl⟩ := H; have p270 : 0 ≤ (x1_2 : Int) := dt_; have q270 : x1_2 < (l0.length : Int) := dt_; obtain ⟨ad270, e270, hx270_0, hx270_1, hx270_2, hx270_3⟩ := at_T46 HR0.out x1_2 p270 q270; obtain rfl : ad253 = ad270 := (by injection e270); replace hx270_0 := pw_cell_below HB.out hx270_0; replace hx270_1 := pw_cell_below HB.out hx270_1; replace hx270_2 := pw_cell_below HB.out hx270_2; replace hx270_3 := pw_cell_below HB.out hx270_3; replace p270 := eq_true p270; replace q270 := eq_true q270
    go_wp2_with (first | ((with_reducible refine gate_callee (f := 80) rfl ?_); refine gk_ (some 96) Tryd.func80 (salchowref10_sign.calls ((rd_T46 l0 x1_2).f0) ((rd_T46 l0 x1_2).f1) ((rd_T46 l0 x1_2).f2) ((rd_T46 l0 x1_2).f3) (⟨#[125]⟩ : ByteArray) true _ A60.out) ?_; rintro e w62 ⟨rfl, hb⟩; refine ⟨_, rfl, ?_⟩; refine cut6_ (Kd.R_below (rR_ HO_256001.out) hb) (Kd.R_below (rR_ HO_256003.out) hb) (bb_ BK251.out hb) (bb_ BK252.out hb) (bb_ BK255.out hb) (below_step (bl3_ HB.out GE251.out GE252.out GE255.out) hb) ?_; clear hb HO_256001 HO_256003 BK251 BK252 BK255 HB; intro HO_256001 HO_256003 BK251 BK252 BK255 HB; have hnb63 := NB255_251.out; have hnc63 := NB251_255.out; have hnb64 := NB255_252.out; have hnc64 := NB252_255.out; obtain ⟨hcz65_0, hcz65_1, hcz65_2, hcz65_3, hcz65_4, hfz65_0, hfz65_1, hfz65_2, hfz65_3, hfz65_4⟩ := cq5_ BK255.out; have hnb66 := NB251_252.out; have hnc66 := NB252_251.out; obtain ⟨hcz67_0, hcz67_1, hcz67_2, hcz67_3, hcz67_4, hfz67_0, hfz67_1, hfz67_2, hfz67_3, hfz67_4⟩ := cq5_ BK251.out; obtain ⟨Ao68, co68, eo68⟩ := Kd.R_slice HO_256001.out; subst eo68; obtain ⟨Ao69, co69, eo69⟩ := Kd.R_slice HO_256003.out; subst eo69; obtain ⟨hcz70_0, hcz70_1, hfz70_0, hfz70_1⟩ := cq2_ BK252.out))
    refine bodyPost_ret (results_list (rs := [.cell 6 41, .tmp 7, .cell 8 26]) rfl (by simp) (.cell gb251 41 #[.string ((rd_T46 l0 a1).f1), .slice Ao68 x256001_1.length co68, .bool true, .slice Ao69 x256003_2.length co69, .int .i64 ((rd_T46 l0 a1).f3)] (0, 0) _ rfl (by exact far2_ (put5_ (bk_ BK251.out)) NB251_252.out) Tryd.underlying41 rfl (by kernel_rfl) (.tmp (.cell gb252 26 #[.int .i64 0, .int .i64 0] (0, 0) _ rfl (by refine blk_put (cs := #[.int .i64 0, .int .i64 x253001_2]) ?_ 1 _ rfl; refine blk_put (cs := #[.int .i64 x253000_2, .int .i64 x253001_2]) ?_ 0 _ rfl; exact far5_ (bk_ BK252.out) NB252_251.out) Tryd.underlying26 rfl (by kernel_rfl) .nil)))) rfl ?_; exact ⟨_, _, er_, rR_ (Kd.R_mono (rf2_ gb252 (Kd.R_far (p := ⟨gb251, 4, none⟩) (Kd.R_far (p := ⟨gb251, 3, none⟩) (Kd.R_far (p := ⟨gb251, 2, none⟩) (Kd.R_far (p := ⟨gb251, 1, none⟩) (Kd.R_far (p := ⟨gb251, 0, none⟩) (Kd.R_types (Kd.R_types HO_256001.out BK251.out (by decide)) BK252.out (by decide)) (fun _ hk => hk.1.2) (.string ((rd_T46 l0 a1).f1))) (fun _ hk => hk.1.2) (.slice Ao68 x256001_1.length co68)) (fun _ hk => hk.1.2) (.bool true)) (fun _ hk => hk.1.2) (.slice Ao69 x256003_2.length co69)) (fun _ hk => hk.1.2) (.int .i64 ((rd_T46 l0 a1).f3)))) (fun _ hk => trivial)), rR_ (Kd.R_mono (rf2_ gb252 (Kd.R_far (p := ⟨gb251, 4, none⟩) (Kd.R_far (p := ⟨gb251, 3, none⟩) (Kd.R_far (p := ⟨gb251, 2, none⟩) (Kd.R_far (p := ⟨gb251, 1, none⟩) (Kd.R_far (p := ⟨gb251, 0, none⟩) (Kd.R_types (Kd.R_mono HO_256003.out (fun k_ hk => (⟨hk, hk.2.1⟩ : _ ∧ k_ ≠ gb251))) BK252.out (by decide)) (fun _ hk => hk.1.2) (.string ((rd_T46 l0 a1).f1))) (fun _ hk => hk.1.2) (.slice Ao68 x256001_1.length co68)) (fun _ hk => hk.1.2) (.bool true)) (fun _ hk => hk.1.2) (.slice Ao69 x256003_2.length co69)) (fun _ hk => hk.1.2) (.int .i64 ((rd_T46 l0 a1).f3)))) (fun _ hk => hk.1.1.1)), bl3_ HB.out GE251.out GE252.out GE255.out⟩
   replace H := bn_ H; obtain ⟨⟨t272, t273, t276, t277, t280, t281, t282, t283⟩, A71, H⟩ := H; (try dsimp only at H); replace H := sp_ H; obtain ⟨c72, H⟩ | ⟨c72, H⟩ := H
   ·
    have c72b0 := beq_iff_eq.mpr c72; have c72b1 := bne_eq_false_iff_eq.mpr c72; clear c72; replace H := gp_ H; obtain ⟨c73, H⟩ := H; have LMc73 := Aside0.mk c73; clear c73; obtain ⟨y286, hy286⟩ : ∃ y_ : List (S41), y_ = (x256003_2 ++ [(⟨t272, t273, t276, t277, t280⟩ : S41)]) := ⟨_, rfl⟩; replace H : (salchowref10_entry.l1 k2 l0 t281 a2 ((rd_T46 l0 a1).f1) x256001_1 true y286 ((rd_T46 l0 a1).f3)) = some (r1, r2, r3, r4, r5, r6, r7, r8) := by first | (rw [hy286]; with_reducible exact H) | (have H2_ := (Option.bind_some _ _).symm.trans H; rw [hy286]; with_reducible exact H2_) | (have H2_ := (Option.bind_some _ _).symm.trans H; with_reducible exact H2_) | with_reducible exact H | (rw [hy286]; exact H) | exact H
    have Ny286 := Aside0.mk hy286; clear hy286; have H' := Aside0.mk H; clear H; have p270 : 0 ≤ (x1_2 : Int) := dt_; have q270 : x1_2 < (l0.length : Int) := dt_; obtain ⟨ad270, e270, hx270_0, hx270_1, hx270_2, hx270_3⟩ := at_T46 HR0.out x1_2 p270 q270; obtain rfl : ad253 = ad270 := (by injection e270); replace hx270_0 := pw_cell_below HB.out hx270_0; replace hx270_1 := pw_cell_below HB.out hx270_1; replace hx270_2 := pw_cell_below HB.out hx270_2; replace hx270_3 := pw_cell_below HB.out hx270_3; replace p270 := eq_true p270; replace q270 := eq_true q270
    go_wp2_with (first | ((with_reducible refine gate_callee (f := 80) rfl ?_); refine gk_ (some 96) Tryd.func80 (salchowref10_sign.calls ((rd_T46 l0 x1_2).f0) ((rd_T46 l0 x1_2).f1) ((rd_T46 l0 x1_2).f2) ((rd_T46 l0 x1_2).f3) (⟨#[125]⟩ : ByteArray) false _ A60.out) ?_; rintro e w74 ⟨rfl, hb⟩; refine ⟨_, rfl, ?_⟩; refine cut6_ (Kd.R_below (rR_ HO_256001.out) hb) (Kd.R_below (rR_ HO_256003.out) hb) (bb_ BK251.out hb) (bb_ BK252.out hb) (bb_ BK255.out hb) (below_step (bl3_ HB.out GE251.out GE252.out GE255.out) hb) ?_; clear hb HO_256001 HO_256003 BK251 BK252 BK255 HB; intro HO_256001 HO_256003 BK251 BK252 BK255 HB) | ((with_reducible refine gate_callee (f := 53) rfl ?_); refine gk_ (some 103) Tryd.func53 (ih k2 (by have := HK1.out; have := HK2.out; omega) _ _ l0 x1_2 (wrap64 (a2 + 1)) t272 t273 t276 t277 t280 t281 t282 t283 _ ?side1 ?side2 A71.out) ?_; (case side1 => repeat (first | exact (Kd.C_below HR0.out HB.out) | (with_reducible refine Kd.C_alloc ?_ _) | (with_reducible refine Kd.C_drewN ?_ _) | (with_reducible refine Kd.C_drew ?_))); (case side2 => exact HC0.out); rintro e w75 ⟨v274, v278, rfl, ho0, ho1, hb⟩; refine ⟨_, rfl, ?_⟩; refine cut8_ (Kd.R_elder' (rR_ HO_256001.out) (Kd.R_base ho0) hb) (Kd.R_mono (Kd.R_told (Kd.R_told (Kd.R_old (rR_ HO_256003.out) hb) (Kd.R_base ho0)) (Kd.R_base ho1)) (fun _ h_ => h_.1)) (Kd.R_lower (Kd.R_new' ho0 (Kd.R_lt (rR_ HO_256001.out))) (below_size (bl3_ HB.out GE251.out GE252.out GE255.out))) (Kd.R_lower (Kd.R_newB (Kd.R_newB (Kd.R_new' (Kd.R_new' ho1 (Kd.R_lt (rR_ HO_256001.out))) (Kd.R_lt (rR_ HO_256003.out))) (g := gb251) (o := .cells #[.string x252000_2, .slice none 0 0, .bool x252002_2, .slice none 0 0, .int .i64 x252004_2] 41 (0, 0)) (bk_ BK251.out)) (g := gb255) (o := .cells #[.string ((rd_T46 l0 a1).f1), u256001, .bool true, u256003, .int .i64 ((rd_T46 l0 a1).f3)] 41 (0, 0)) (bk_ BK255.out)) (below_size (bl3_ HB.out GE251.out GE252.out GE255.out))) (bb_ BK251.out hb) (bb_ BK252.out hb) (bb_ BK255.out hb) (below_step (bl3_ HB.out GE251.out GE252.out GE255.out) hb) ?_; clear hb HO_256001 HO_256003 BK251 BK252 BK255 HB; intro HO_256001 HO_256003 HO275 HO279 BK251 BK252 BK255 HB; (try clear ho0); (try clear ho1)) | ((with_reducible refine gate_dst (N := 10) rfl ?_); refine bx_ (N := 10) (cs := #[.string (⟨#[]⟩ : ByteArray), .slice none 0 0, .bool false, .slice none 0 0, .int .i64 0]) (t := 41) ?_; intro gb284 hg w76 hbox hb; refine cut17_ (Kd.R_below (rR_ HO_256001.out) hb) (Kd.R_below (Kd.R_elderB (rR_ HO_256003.out) gb284 (Nat.le_of_eq hg.symm)) hb) (Kd.R_below (rR_ HO275.out) hb) (Kd.R_below (Kd.R_elderB (rR_ HO279.out) gb284 (Nat.le_of_eq hg.symm)) hb) (bb_ BK251.out hb) (bb_ BK252.out hb) (bb_ BK255.out hb) (below_step (bl3_ HB.out GE251.out GE252.out GE255.out) hb) (hbox) (bz_ (w := w) hg (bl3_ HB.out GE251.out GE252.out GE255.out)) (bz_ (w := w) hg (bl3_ HB.out GE251.out GE252.out GE255.out)) (nl_ hg BK251.out) (ng_ hg BK251.out) (nl_ hg BK252.out) (ng_ hg BK252.out) (nl_ hg BK255.out) (ng_ hg BK255.out) ?_; clear HO_256001 HO_256003 HO275 HO279 BK251 BK252 BK255 HB; intro HO_256001 HO_256003 HO275 HO279 BK251 BK252 BK255 HB BK284 GW284 GE284 NB251_284 NB284_251 NB252_284 NB284_252 NB255_284 NB284_255; clear hb hbox hg) | ((with_reducible refine gate_dst (N := 12) rfl ?_); refine bx_ (N := 12) (cs := #[.int .i64 0, .int .i64 0]) (t := 26) ?_; intro gb285 hg w77 hbox hb; refine cut20_ (Kd.R_below (rR_ HO_256001.out) hb) (Kd.R_below (rR_ HO_256003.out) hb) (Kd.R_below (rR_ HO275.out) hb) (Kd.R_below (rR_ HO279.out) hb) (bb_ BK251.out hb) (bb_ BK252.out hb) (bb_ BK255.out hb) (bb_ BK284.out hb) (below_step (bl4_ HB.out GE251.out GE252.out GE255.out GE284.out) hb) (hbox) (bz_ (w := w) hg (bl4_ HB.out GE251.out GE252.out GE255.out GE284.out)) (bz_ (w := w) hg (bl4_ HB.out GE251.out GE252.out GE255.out GE284.out)) (nl_ hg BK251.out) (ng_ hg BK251.out) (nl_ hg BK252.out) (ng_ hg BK252.out) (nl_ hg BK255.out) (ng_ hg BK255.out) (nl_ hg BK284.out) (ng_ hg BK284.out) ?_; clear HO_256001 HO_256003 HO275 HO279 BK251 BK252 BK255 BK284 HB; intro HO_256001 HO_256003 HO275 HO279 BK251 BK252 BK255 BK284 HB BK285 GW285 GE285 NB251_285 NB285_251 NB252_285 NB285_252 NB255_285 NB285_255 NB284_285 NB285_284; clear hb hbox hg; have hnb78 := NB284_251.out; have hnc78 := NB251_284.out; have hnb79 := NB284_252.out; have hnc79 := NB252_284.out; have hnb80 := NB284_255.out; have hnc80 := NB255_284.out; have hnb81 := NB284_285.out; have hnc81 := NB285_284.out; obtain ⟨hcz82_0, hcz82_1, hcz82_2, hcz82_3, hcz82_4, hfz82_0, hfz82_1, hfz82_2, hfz82_3, hfz82_4⟩ := cq5_ BK284.out; obtain ⟨Ao83, co83, eo83⟩ := Kd.R_slice HO275.out; subst eo83; obtain ⟨Ao84, co84, eo84⟩ := Kd.R_slice HO279.out; subst eo84) | ((with_reducible refine gate_store (t := 41) (p := 10) rfl ?_); refine st_ (t := 41) (p := 10) (w1 := (((((w77.setCell ⟨gb284, 0, none⟩ (.string t272)).setCell ⟨gb284, 1, none⟩ (.slice Ao83 t273.length co83)).setCell ⟨gb284, 2, none⟩ (.bool t276)).setCell ⟨gb284, 3, none⟩ (.slice Ao84 t277.length co84)).setCell ⟨gb284, 4, none⟩ (.int .i64 t280))) ?_; intro w85 hw; refine cut10_ ((by rw [hw]; exact rR_ (Kd.R_mono (rf5_ gb284 (Kd.R_types HO_256001.out BK284.out (by decide))) (fun _ hk => hk.1.2)) : Kd.R k46 46 w85 w.heap.size (fun k_ => some k_ ≠ (.slice Ao83 t273.length co83 : Value).ownBlock) u256001 x256001_1)) ((by rw [hw]; exact (by (with_reducible repeat (first | apply Kd.R_alloc | apply Kd.R_drewN | apply Kd.R_drew)); exact Kd.R_mono (rf5_ gb284 (Kd.R_mono HO_256003.out (fun k_ hk => (⟨hk, hk.2⟩ : _ ∧ k_ ≠ gb284)))) (fun _ hk => ⟨hk.1.1.1.1.1, ⟨hk.1.1.1.2, ⟨hk.1.1.2, ⟨hk.1.1.1.1.2.1, ⟨hk.1.1.1.1.2.2, hk.1.2⟩⟩⟩⟩⟩)) : Kd.R k41 41 w85 w.heap.size (fun k_ => some k_ ≠ (u256001 : Value).ownBlock ∧ some k_ ≠ (.slice Ao83 t273.length co83 : Value).ownBlock ∧ some k_ ≠ (.slice Ao84 t277.length co84 : Value).ownBlock ∧ k_ ≠ gb251 ∧ k_ ≠ gb255 ∧ k_ ≠ gb284) u256003 x256003_2)) ((by rw [hw]; exact rR_ (Kd.R_mono (rf5_ gb284 (Kd.R_types HO275.out BK284.out (by decide))) (fun _ hk => hk.1.2)) : Kd.R k46 46 w85 w.heap.size (fun k_ => some k_ ≠ (u256001 : Value).ownBlock) (.slice Ao83 t273.length co83) t273)) ((by rw [hw]; exact (by (with_reducible repeat (first | apply Kd.R_alloc | apply Kd.R_drewN | apply Kd.R_drew)); exact Kd.R_mono (rf5_ gb284 (Kd.R_mono HO279.out (fun k_ hk => (⟨hk, hk.2⟩ : _ ∧ k_ ≠ gb284)))) (fun _ hk => ⟨hk.1.1.1.1.1.2, ⟨hk.1.1.1.1.2, ⟨hk.1.1.1.1.1.1, ⟨hk.1.1.1.2, ⟨hk.1.1.2, hk.1.2⟩⟩⟩⟩⟩)) : Kd.R k41 41 w85 w.heap.size (fun k_ => some k_ ≠ (u256001 : Value).ownBlock ∧ some k_ ≠ (u256003 : Value).ownBlock ∧ some k_ ≠ (.slice Ao83 t273.length co83 : Value).ownBlock ∧ k_ ≠ gb251 ∧ k_ ≠ gb255 ∧ k_ ≠ gb284) (.slice Ao84 t277.length co84) t277)) (bw_ hw (far5_ (bk_ BK251.out) NB251_284.out)) (bw_ hw (far5_ (bk_ BK252.out) NB252_284.out)) (bw_ hw (far5_ (bk_ BK255.out) NB255_284.out)) (bw_ hw (put5_ (bk_ BK284.out))) (bw_ hw (far5_ (bk_ BK285.out) NB285_284.out)) (bW_ hw (bl5_ HB.out GE251.out GE252.out GE255.out GE284.out GE285.out)) ?_; clear hw HO_256001 HO_256003 HO275 HO279 BK251 BK252 BK255 BK284 BK285 HB; intro HO_256001 HO_256003 HO275 HO279 BK251 BK252 BK255 BK284 BK285 HB; have hnb86 := NB285_251.out; have hnc86 := NB251_285.out; have hnb87 := NB285_252.out; have hnc87 := NB252_285.out; have hnb88 := NB285_255.out; have hnc88 := NB255_285.out; obtain ⟨hcz89_0, hcz89_1, hfz89_0, hfz89_1⟩ := cq2_ BK285.out) | ((with_reducible refine gate_store (t := 26) (p := 12) rfl ?_); refine st_ (t := 26) (p := 12) (w1 := ((w85.setCell ⟨gb285, 0, none⟩ (.int .i64 t282)).setCell ⟨gb285, 1, none⟩ (.int .i64 t283))) ?_; intro w90 hw; refine cut10_ ((by rw [hw]; exact rR_ (Kd.R_mono (rf2_ gb285 (Kd.R_types HO_256001.out BK285.out (by decide))) (fun _ hk => hk.1)) : Kd.R k46 46 w90 w.heap.size (fun k_ => some k_ ≠ (.slice Ao83 t273.length co83 : Value).ownBlock) u256001 x256001_1)) ((by rw [hw]; exact (by (with_reducible repeat (first | apply Kd.R_alloc | apply Kd.R_drewN | apply Kd.R_drew)); exact Kd.R_mono (rf2_ gb285 (Kd.R_types HO_256003.out BK285.out (by decide))) (fun _ hk => ⟨hk.1.1, ⟨hk.1.2.1, ⟨hk.1.2.2.1, ⟨hk.1.2.2.2.1, ⟨hk.1.2.2.2.2.1, hk.1.2.2.2.2.2⟩⟩⟩⟩⟩)) : Kd.R k41 41 w90 w.heap.size (fun k_ => some k_ ≠ (u256001 : Value).ownBlock ∧ some k_ ≠ (.slice Ao83 t273.length co83 : Value).ownBlock ∧ some k_ ≠ (.slice Ao84 t277.length co84 : Value).ownBlock ∧ k_ ≠ gb251 ∧ k_ ≠ gb255 ∧ k_ ≠ gb284) u256003 x256003_2)) ((by rw [hw]; exact rR_ (Kd.R_mono (rf2_ gb285 (Kd.R_types HO275.out BK285.out (by decide))) (fun _ hk => hk.1)) : Kd.R k46 46 w90 w.heap.size (fun k_ => some k_ ≠ (u256001 : Value).ownBlock) (.slice Ao83 t273.length co83) t273)) ((by rw [hw]; exact (by (with_reducible repeat (first | apply Kd.R_alloc | apply Kd.R_drewN | apply Kd.R_drew)); exact Kd.R_mono (rf2_ gb285 (Kd.R_types HO279.out BK285.out (by decide))) (fun _ hk => ⟨hk.1.1, ⟨hk.1.2.1, ⟨hk.1.2.2.1, ⟨hk.1.2.2.2.1, ⟨hk.1.2.2.2.2.1, hk.1.2.2.2.2.2⟩⟩⟩⟩⟩)) : Kd.R k41 41 w90 w.heap.size (fun k_ => some k_ ≠ (u256001 : Value).ownBlock ∧ some k_ ≠ (u256003 : Value).ownBlock ∧ some k_ ≠ (.slice Ao83 t273.length co83 : Value).ownBlock ∧ k_ ≠ gb251 ∧ k_ ≠ gb255 ∧ k_ ≠ gb284) (.slice Ao84 t277.length co84) t277)) (bw_ hw (far2_ (bk_ BK251.out) NB251_285.out)) (bw_ hw (far2_ (bk_ BK252.out) NB252_285.out)) (bw_ hw (far2_ (bk_ BK255.out) NB255_285.out)) (bw_ hw (far2_ (bk_ BK284.out) NB284_285.out)) (bw_ hw (put2_ (bk_ BK285.out))) (bW_ hw (bl5_ HB.out GE251.out GE252.out GE255.out GE284.out GE285.out)) ?_; clear hw HO_256001 HO_256003 HO275 HO279 BK251 BK252 BK255 BK284 BK285 HB; intro HO_256001 HO_256003 HO275 HO279 BK251 BK252 BK255 BK284 BK285 HB; obtain ⟨hcz91_0, hcz91_1, hfz91_0, hfz91_1⟩ := cq2_ BK285.out; have hnb92 := NB255_251.out; have hnc92 := NB251_255.out; have hnb93 := NB255_252.out; have hnc93 := NB252_255.out; obtain ⟨hcz94_0, hcz94_1, hcz94_2, hcz94_3, hcz94_4, hfz94_0, hfz94_1, hfz94_2, hfz94_3, hfz94_4⟩ := cq5_ BK255.out; obtain ⟨hcz95_0, hcz95_1, hcz95_2, hcz95_3, hcz95_4, hfz95_0, hfz95_1, hfz95_2, hfz95_3, hfz95_4⟩ := cq5_ BK284.out) | ((with_reducible refine gate_builtin (b := .append) (xs := #[.tmp 114, .tmp 116]) rfl ?_); at_builtin; refine Kd.R_append k41 (w0 := w) w.heap.size rfl (.tmp 114) (.tmp 116) 23 41 (.agg #[(.string ⟨#[]⟩), (.slice none 0 0), (.bool false), (.slice none 0 0), (.int .i64 0)]) 80 rfl Tryd.underlying23 info41 rfl (by decide) (by omega) u256003 x256003_2 (⟨t272, t273, t276, t277, t280⟩ : S41) [.string t272, .slice Ao83 t273.length co83, .bool t276, .slice Ao84 t277.length co84, .int .i64 t280] (fun k_ => some k_ ≠ (u256001 : Value).ownBlock ∧ k_ ≠ gb251 ∧ k_ ≠ gb255 ∧ k_ ≠ gb284) (fun k_ => ((fun k_ => some k_ ≠ (u256001 : Value).ownBlock ∧ k_ ≠ gb251 ∧ k_ ≠ gb255 ∧ k_ ≠ gb284)) k_ ∧ some k_ ≠ (u256003 : Value).ownBlock) rfl rfl ?aP (fun _ hk => hk) ?aF ?aO ?aB ?aS ?aL ?_; (case aP => exact k41_mkM _ _ _ (⟨t272, t273, t276, t277, t280⟩ : S41) (Kd.R_mono (Kd.R_types (Kd.R_types (Kd.R_types (Kd.R_apart' (HO275.out) (Kd.R_typed HO_256003.out) (by decide)) BK251.out (by decide)) BK255.out (by decide)) BK284.out (by decide)) (fun k_ hk => ⟨⟨hk.1.1.1.1, ⟨hk.1.1.2, ⟨hk.1.2, hk.2⟩⟩⟩, hk.1.1.1.2⟩)) (Kd.R_mono (HO279.out) (fun k_ hk => ⟨⟨hk.1, ⟨hk.2.2.2.1, ⟨hk.2.2.2.2.1, hk.2.2.2.2.2⟩⟩⟩, hk.2.1⟩))); (case aB => exact (bl5_ HB.out GE251.out GE252.out GE255.out GE284.out GE285.out)); (case aF => exact (fun k_ hk => ⟨Kd.fresh' (Kd.R_lt (rR_ HO_256001.out)) k_ hk, Kd.freshB (g := gb251) (o := .cells #[.string x252000_2, .slice none 0 0, .bool x252002_2, .slice none 0 0, .int .i64 x252004_2] 41 (0, 0)) (bk_ BK251.out) k_ hk, Kd.freshB (g := gb255) (o := .cells #[.string ((rd_T46 l0 a1).f1), u256001, .bool true, u256003, .int .i64 ((rd_T46 l0 a1).f3)] 41 (0, 0)) (bk_ BK255.out) k_ hk, Kd.freshB (g := gb284) (o := .cells #[.string t272, .slice Ao83 t273.length co83, .bool t276, .slice Ao84 t277.length co84, .int .i64 t280] 41 (0, 0)) (bk_ BK284.out) k_ hk⟩)); (case aO => exact (by (with_reducible repeat (first | apply Kd.R_alloc | apply Kd.R_drewN | apply Kd.R_drew)); exact Kd.R_mono HO_256003.out (fun _ hk => ⟨hk.1, ⟨hk.2.2.2.1, ⟨hk.2.2.2.2.1, hk.2.2.2.2.2⟩⟩⟩))); (case aS => exact (below_size (bl5_ HB.out GE251.out GE252.out GE255.out GE284.out GE285.out))); (case aL => have := LMc73.out; omega); intro v287 w96 ho hb hg hat; rw [← Ny286.out] at ho; refine cut8_ (Kd.R_over' (rR_ HO_256001.out) (Kd.R_typed (rR_ HO_256003.out)) (by decide) hg) (blk_grown (g := gb251) (o := .cells #[.string x252000_2, .slice none 0 0, .bool x252002_2, .slice none 0 0, .int .i64 x252004_2] 41 (0, 0)) (bk_ BK251.out) hg (Kd.R_away HO_256003.out (fun _ hk => hk.2.2.2.1))) (blk_grown (g := gb252) (o := .cells #[.int .i64 x253000_2, .int .i64 x253001_2] 26 (0, 0)) (bk_ BK252.out) hg (Kd.R_ne HO_256003.out BK252.out (by decide))) (blk_grown (g := gb255) (o := .cells #[.string ((rd_T46 l0 a1).f1), u256001, .bool true, u256003, .int .i64 ((rd_T46 l0 a1).f3)] 41 (0, 0)) (bk_ BK255.out) hg (Kd.R_away HO_256003.out (fun _ hk => hk.2.2.2.2.1))) (blk_grown (g := gb284) (o := .cells #[.string t272, .slice Ao83 t273.length co83, .bool t276, .slice Ao84 t277.length co84, .int .i64 t280] 41 (0, 0)) (bk_ BK284.out) hg (Kd.R_away HO_256003.out (fun _ hk => hk.2.2.2.2.2))) (blk_grown (g := gb285) (o := .cells #[.int .i64 t282, .int .i64 t283] 26 (0, 0)) (bk_ BK285.out) hg (Kd.R_ne HO_256003.out BK285.out (by decide))) (hb) (ho) ?_; clear HO_256001 BK251 BK252 BK255 BK284 BK285 HB HO_256003 HO275 HO279; intro HO_256001 BK251 BK252 BK255 BK284 BK285 HB HO288; clear ho hb hg hat; obtain ⟨Ao97, co97, eo97⟩ := Kd.R_slice HO288.out; subst eo97; obtain ⟨hcz98_0, hcz98_1, hcz98_2, hcz98_3, hcz98_4, hfz98_0, hfz98_1, hfz98_2, hfz98_3, hfz98_4⟩ := cq5_ BK255.out))
    go_roundg k2
    case measure => have := HK1.out; have := HK2.out; omega
    case rel => exact ⟨(t281), (x252000_2), (x252002_2), (x252004_2), (x253000_2), (x253001_2), (y286), (.slice Ao97 y286.length co97), sr_, H', ⟨by have := HK1.out; have := HK2.out; omega⟩, ⟨rR_ (Kd.R_mono (rf1_ gb255 (Kd.R_types HO_256001.out BK255.out (by decide))) (fun _ hk => trivial))⟩, ⟨by (with_reducible repeat (first | apply Kd.R_alloc | apply Kd.R_drewN | apply Kd.R_drew)); exact Kd.R_mono (rf1_ gb255 (Kd.R_mono HO288.out (fun k_ hk => (⟨hk, hk.2.2.1⟩ : _ ∧ k_ ≠ gb255)))) (fun _ hk => ⟨hk.1.1, ⟨hk.1.2.1, hk.1.2.2.1⟩⟩)⟩, ⟨far1_ (bk_ BK251.out) NB251_255.out⟩, ⟨far1_ (bk_ BK252.out) NB252_255.out⟩, ⟨by refine blk_put (cs := #[.string ((rd_T46 l0 a1).f1), u256001, .bool true, u256003, .int .i64 ((rd_T46 l0 a1).f3)]) ?_ 3 _ rfl; exact bk_ BK255.out⟩, ⟨bl5_ HB.out GE251.out GE252.out GE255.out GE284.out GE285.out⟩⟩
   have c72b0 := beq_eq_false_iff_ne.mpr c72; have c72b1 := bne_iff_ne.mpr c72; simp only [Option.some.injEq, Prod.mk.injEq] at H; obtain ⟨rfl, rfl, rfl, rfl, rfl, rfl, rfl, rfl⟩ := H; have p270 : 0 ≤ (x1_2 : Int) := dt_; have q270 : x1_2 < (l0.length : Int) := dt_; obtain ⟨ad270, e270, hx270_0, hx270_1, hx270_2, hx270_3⟩ := at_T46 HR0.out x1_2 p270 q270; obtain rfl : ad253 = ad270 := (by injection e270); replace hx270_0 := pw_cell_below HB.out hx270_0; replace hx270_1 := pw_cell_below HB.out hx270_1; replace hx270_2 := pw_cell_below HB.out hx270_2; replace hx270_3 := pw_cell_below HB.out hx270_3; replace p270 := eq_true p270; replace q270 := eq_true q270
   try go_wp2_with (first | ((with_reducible refine gate_callee (f := 80) rfl ?_); refine gk_ (some 96) Tryd.func80 (salchowref10_sign.calls ((rd_T46 l0 x1_2).f0) ((rd_T46 l0 x1_2).f1) ((rd_T46 l0 x1_2).f2) ((rd_T46 l0 x1_2).f3) (⟨#[125]⟩ : ByteArray) false _ A60.out) ?_; rintro e w99 ⟨rfl, hb⟩; refine ⟨_, rfl, ?_⟩; refine cut6_ (Kd.R_below (rR_ HO_256001.out) hb) (Kd.R_below (rR_ HO_256003.out) hb) (bb_ BK251.out hb) (bb_ BK252.out hb) (bb_ BK255.out hb) (below_step (bl3_ HB.out GE251.out GE252.out GE255.out) hb) ?_; clear hb HO_256001 HO_256003 BK251 BK252 BK255 HB; intro HO_256001 HO_256003 BK251 BK252 BK255 HB) | ((with_reducible refine gate_callee (f := 53) rfl ?_); refine gk_ (some 103) Tryd.func53 (ih k2 (by have := HK1.out; have := HK2.out; omega) _ _ l0 x1_2 (wrap64 (a2 + 1)) t272 t273 t276 t277 t280 t281 t282 t283 _ ?side1 ?side2 A71.out) ?_; (case side1 => repeat (first | exact (Kd.C_below HR0.out HB.out) | (with_reducible refine Kd.C_alloc ?_ _) | (with_reducible refine Kd.C_drewN ?_ _) | (with_reducible refine Kd.C_drew ?_))); (case side2 => exact HC0.out); rintro e w100 ⟨v274, v278, rfl, ho0, ho1, hb⟩; refine ⟨_, rfl, ?_⟩; refine cut8_ (Kd.R_elder' (rR_ HO_256001.out) (Kd.R_base ho0) hb) (Kd.R_mono (Kd.R_told (Kd.R_told (Kd.R_old (rR_ HO_256003.out) hb) (Kd.R_base ho0)) (Kd.R_base ho1)) (fun _ h_ => h_.1)) (Kd.R_lower (Kd.R_new' ho0 (Kd.R_lt (rR_ HO_256001.out))) (below_size (bl3_ HB.out GE251.out GE252.out GE255.out))) (Kd.R_lower (Kd.R_newB (Kd.R_newB (Kd.R_new' (Kd.R_new' ho1 (Kd.R_lt (rR_ HO_256001.out))) (Kd.R_lt (rR_ HO_256003.out))) (g := gb251) (o := .cells #[.string x252000_2, .slice none 0 0, .bool x252002_2, .slice none 0 0, .int .i64 x252004_2] 41 (0, 0)) (bk_ BK251.out)) (g := gb255) (o := .cells #[.string ((rd_T46 l0 a1).f1), u256001, .bool true, u256003, .int .i64 ((rd_T46 l0 a1).f3)] 41 (0, 0)) (bk_ BK255.out)) (below_size (bl3_ HB.out GE251.out GE252.out GE255.out))) (bb_ BK251.out hb) (bb_ BK252.out hb) (bb_ BK255.out hb) (below_step (bl3_ HB.out GE251.out GE252.out GE255.out) hb) ?_; clear hb HO_256001 HO_256003 BK251 BK252 BK255 HB; intro HO_256001 HO_256003 HO275 HO279 BK251 BK252 BK255 HB; (try clear ho0); (try clear ho1)) | ((with_reducible refine gate_dst (N := 10) rfl ?_); refine bx_ (N := 10) (cs := #[.string (⟨#[]⟩ : ByteArray), .slice none 0 0, .bool false, .slice none 0 0, .int .i64 0]) (t := 41) ?_; intro gb284 hg w101 hbox hb; refine cut17_ (Kd.R_below (rR_ HO_256001.out) hb) (Kd.R_below (Kd.R_elderB (rR_ HO_256003.out) gb284 (Nat.le_of_eq hg.symm)) hb) (Kd.R_below (rR_ HO275.out) hb) (Kd.R_below (Kd.R_elderB (rR_ HO279.out) gb284 (Nat.le_of_eq hg.symm)) hb) (bb_ BK251.out hb) (bb_ BK252.out hb) (bb_ BK255.out hb) (below_step (bl3_ HB.out GE251.out GE252.out GE255.out) hb) (hbox) (bz_ (w := w) hg (bl3_ HB.out GE251.out GE252.out GE255.out)) (bz_ (w := w) hg (bl3_ HB.out GE251.out GE252.out GE255.out)) (nl_ hg BK251.out) (ng_ hg BK251.out) (nl_ hg BK252.out) (ng_ hg BK252.out) (nl_ hg BK255.out) (ng_ hg BK255.out) ?_; clear HO_256001 HO_256003 HO275 HO279 BK251 BK252 BK255 HB; intro HO_256001 HO_256003 HO275 HO279 BK251 BK252 BK255 HB BK284 GW284 GE284 NB251_284 NB284_251 NB252_284 NB284_252 NB255_284 NB284_255; clear hb hbox hg) | ((with_reducible refine gate_dst (N := 12) rfl ?_); refine bx_ (N := 12) (cs := #[.int .i64 0, .int .i64 0]) (t := 26) ?_; intro gb285 hg w102 hbox hb; refine cut20_ (Kd.R_below (rR_ HO_256001.out) hb) (Kd.R_below (rR_ HO_256003.out) hb) (Kd.R_below (rR_ HO275.out) hb) (Kd.R_below (rR_ HO279.out) hb) (bb_ BK251.out hb) (bb_ BK252.out hb) (bb_ BK255.out hb) (bb_ BK284.out hb) (below_step (bl4_ HB.out GE251.out GE252.out GE255.out GE284.out) hb) (hbox) (bz_ (w := w) hg (bl4_ HB.out GE251.out GE252.out GE255.out GE284.out)) (bz_ (w := w) hg (bl4_ HB.out GE251.out GE252.out GE255.out GE284.out)) (nl_ hg BK251.out) (ng_ hg BK251.out) (nl_ hg BK252.out) (ng_ hg BK252.out) (nl_ hg BK255.out) (ng_ hg BK255.out) (nl_ hg BK284.out) (ng_ hg BK284.out) ?_; clear HO_256001 HO_256003 HO275 HO279 BK251 BK252 BK255 BK284 HB; intro HO_256001 HO_256003 HO275 HO279 BK251 BK252 BK255 BK284 HB BK285 GW285 GE285 NB251_285 NB285_251 NB252_285 NB285_252 NB255_285 NB285_255 NB284_285 NB285_284; clear hb hbox hg; have hnb103 := NB284_251.out; have hnc103 := NB251_284.out; have hnb104 := NB284_252.out; have hnc104 := NB252_284.out; have hnb105 := NB284_255.out; have hnc105 := NB255_284.out; have hnb106 := NB284_285.out; have hnc106 := NB285_284.out; obtain ⟨hcz107_0, hcz107_1, hcz107_2, hcz107_3, hcz107_4, hfz107_0, hfz107_1, hfz107_2, hfz107_3, hfz107_4⟩ := cq5_ BK284.out; obtain ⟨Ao108, co108, eo108⟩ := Kd.R_slice HO275.out; subst eo108; obtain ⟨Ao109, co109, eo109⟩ := Kd.R_slice HO279.out; subst eo109; have hnb110 := NB285_251.out; have hnc110 := NB251_285.out; have hnb111 := NB285_252.out; have hnc111 := NB252_285.out; have hnb112 := NB285_255.out; have hnc112 := NB255_285.out; obtain ⟨hcz113_0, hcz113_1, hfz113_0, hfz113_1⟩ := cq2_ BK285.out))
   have n0_ : Aside0 (Kd.R k46 46 (((((((w102.setCell ⟨gb284, 0, none⟩ (.string t272)).setCell ⟨gb284, 1, none⟩ (.slice Ao108 t273.length co108)).setCell ⟨gb284, 2, none⟩ (.bool t276)).setCell ⟨gb284, 3, none⟩ (.slice Ao109 t277.length co109)).setCell ⟨gb284, 4, none⟩ (.int .i64 t280)).setCell ⟨gb285, 0, none⟩ (.int .i64 t282)).setCell ⟨gb285, 1, none⟩ (.int .i64 t283)) w.heap.size (fun k_ => some k_ ≠ (.slice Ao108 t273.length co108 : Value).ownBlock) u256001 x256001_1) := ⟨rR_ (Kd.R_mono (rf2_ gb285 (Kd.R_far (p := ⟨gb284, 4, none⟩) (Kd.R_far (p := ⟨gb284, 3, none⟩) (Kd.R_far (p := ⟨gb284, 2, none⟩) (Kd.R_far (p := ⟨gb284, 1, none⟩) (Kd.R_far (p := ⟨gb284, 0, none⟩) (Kd.R_types (Kd.R_types HO_256001.out BK284.out (by decide)) BK285.out (by decide)) (fun _ hk => hk.1.2) (.string t272)) (fun _ hk => hk.1.2) (.slice Ao108 t273.length co108)) (fun _ hk => hk.1.2) (.bool t276)) (fun _ hk => hk.1.2) (.slice Ao109 t277.length co109)) (fun _ hk => hk.1.2) (.int .i64 t280))) (fun _ hk => hk.1.1.2))⟩; have n1_ : Aside0 (Kd.R k41 41 (((((((w102.setCell ⟨gb284, 0, none⟩ (.string t272)).setCell ⟨gb284, 1, none⟩ (.slice Ao108 t273.length co108)).setCell ⟨gb284, 2, none⟩ (.bool t276)).setCell ⟨gb284, 3, none⟩ (.slice Ao109 t277.length co109)).setCell ⟨gb284, 4, none⟩ (.int .i64 t280)).setCell ⟨gb285, 0, none⟩ (.int .i64 t282)).setCell ⟨gb285, 1, none⟩ (.int .i64 t283)) w.heap.size (fun k_ => some k_ ≠ (u256001 : Value).ownBlock ∧ some k_ ≠ (.slice Ao108 t273.length co108 : Value).ownBlock ∧ some k_ ≠ (.slice Ao109 t277.length co109 : Value).ownBlock ∧ k_ ≠ gb251 ∧ k_ ≠ gb255 ∧ k_ ≠ gb284) u256003 x256003_2) := ⟨by (with_reducible repeat (first | apply Kd.R_alloc | apply Kd.R_drewN | apply Kd.R_drew)); exact Kd.R_mono (rf2_ gb285 (Kd.R_far (p := ⟨gb284, 4, none⟩) (Kd.R_far (p := ⟨gb284, 3, none⟩) (Kd.R_far (p := ⟨gb284, 2, none⟩) (Kd.R_far (p := ⟨gb284, 1, none⟩) (Kd.R_far (p := ⟨gb284, 0, none⟩) (Kd.R_types (Kd.R_mono HO_256003.out (fun k_ hk => (⟨hk, hk.2⟩ : _ ∧ k_ ≠ gb284))) BK285.out (by decide)) (fun _ hk => hk.1.2) (.string t272)) (fun _ hk => hk.1.2) (.slice Ao108 t273.length co108)) (fun _ hk => hk.1.2) (.bool t276)) (fun _ hk => hk.1.2) (.slice Ao109 t277.length co109)) (fun _ hk => hk.1.2) (.int .i64 t280))) (fun _ hk => ⟨hk.1.1.1.1.1.1, ⟨hk.1.1.1.1.2, ⟨hk.1.1.1.2, ⟨hk.1.1.1.1.1.2.1, ⟨hk.1.1.1.1.1.2.2, hk.1.1.2⟩⟩⟩⟩⟩)⟩; have n2_ : Aside0 (Kd.R k46 46 (((((((w102.setCell ⟨gb284, 0, none⟩ (.string t272)).setCell ⟨gb284, 1, none⟩ (.slice Ao108 t273.length co108)).setCell ⟨gb284, 2, none⟩ (.bool t276)).setCell ⟨gb284, 3, none⟩ (.slice Ao109 t277.length co109)).setCell ⟨gb284, 4, none⟩ (.int .i64 t280)).setCell ⟨gb285, 0, none⟩ (.int .i64 t282)).setCell ⟨gb285, 1, none⟩ (.int .i64 t283)) w.heap.size (fun k_ => some k_ ≠ (u256001 : Value).ownBlock) (.slice Ao108 t273.length co108) t273) := ⟨rR_ (Kd.R_mono (rf2_ gb285 (Kd.R_far (p := ⟨gb284, 4, none⟩) (Kd.R_far (p := ⟨gb284, 3, none⟩) (Kd.R_far (p := ⟨gb284, 2, none⟩) (Kd.R_far (p := ⟨gb284, 1, none⟩) (Kd.R_far (p := ⟨gb284, 0, none⟩) (Kd.R_types (Kd.R_types HO275.out BK284.out (by decide)) BK285.out (by decide)) (fun _ hk => hk.1.2) (.string t272)) (fun _ hk => hk.1.2) (.slice Ao108 t273.length co108)) (fun _ hk => hk.1.2) (.bool t276)) (fun _ hk => hk.1.2) (.slice Ao109 t277.length co109)) (fun _ hk => hk.1.2) (.int .i64 t280))) (fun _ hk => hk.1.1.2))⟩; have n3_ : Aside0 (Kd.R k41 41 (((((((w102.setCell ⟨gb284, 0, none⟩ (.string t272)).setCell ⟨gb284, 1, none⟩ (.slice Ao108 t273.length co108)).setCell ⟨gb284, 2, none⟩ (.bool t276)).setCell ⟨gb284, 3, none⟩ (.slice Ao109 t277.length co109)).setCell ⟨gb284, 4, none⟩ (.int .i64 t280)).setCell ⟨gb285, 0, none⟩ (.int .i64 t282)).setCell ⟨gb285, 1, none⟩ (.int .i64 t283)) w.heap.size (fun k_ => some k_ ≠ (u256001 : Value).ownBlock ∧ some k_ ≠ (u256003 : Value).ownBlock ∧ some k_ ≠ (.slice Ao108 t273.length co108 : Value).ownBlock ∧ k_ ≠ gb251 ∧ k_ ≠ gb255 ∧ k_ ≠ gb284) (.slice Ao109 t277.length co109) t277) := ⟨by (with_reducible repeat (first | apply Kd.R_alloc | apply Kd.R_drewN | apply Kd.R_drew)); exact Kd.R_mono (rf2_ gb285 (Kd.R_far (p := ⟨gb284, 4, none⟩) (Kd.R_far (p := ⟨gb284, 3, none⟩) (Kd.R_far (p := ⟨gb284, 2, none⟩) (Kd.R_far (p := ⟨gb284, 1, none⟩) (Kd.R_far (p := ⟨gb284, 0, none⟩) (Kd.R_types (Kd.R_mono HO279.out (fun k_ hk => (⟨hk, hk.2⟩ : _ ∧ k_ ≠ gb284))) BK285.out (by decide)) (fun _ hk => hk.1.2) (.string t272)) (fun _ hk => hk.1.2) (.slice Ao108 t273.length co108)) (fun _ hk => hk.1.2) (.bool t276)) (fun _ hk => hk.1.2) (.slice Ao109 t277.length co109)) (fun _ hk => hk.1.2) (.int .i64 t280))) (fun _ hk => ⟨hk.1.1.1.1.1.1.2, ⟨hk.1.1.1.1.1.2, ⟨hk.1.1.1.1.1.1.1, ⟨hk.1.1.1.1.2, ⟨hk.1.1.1.2, hk.1.1.2⟩⟩⟩⟩⟩)⟩; have n4_ : Aside0 ((((((((w102.setCell ⟨gb284, 0, none⟩ (.string t272)).setCell ⟨gb284, 1, none⟩ (.slice Ao108 t273.length co108)).setCell ⟨gb284, 2, none⟩ (.bool t276)).setCell ⟨gb284, 3, none⟩ (.slice Ao109 t277.length co109)).setCell ⟨gb284, 4, none⟩ (.int .i64 t280)).setCell ⟨gb285, 0, none⟩ (.int .i64 t282)).setCell ⟨gb285, 1, none⟩ (.int .i64 t283)).heap[gb251]? = some (.cells #[.string x252000_2, .slice none 0 0, .bool x252002_2, .slice none 0 0, .int .i64 x252004_2] 41 (0, 0))) := ⟨far2_ (far5_ (bk_ BK251.out) NB251_284.out) NB251_285.out⟩; have n5_ : Aside0 ((((((((w102.setCell ⟨gb284, 0, none⟩ (.string t272)).setCell ⟨gb284, 1, none⟩ (.slice Ao108 t273.length co108)).setCell ⟨gb284, 2, none⟩ (.bool t276)).setCell ⟨gb284, 3, none⟩ (.slice Ao109 t277.length co109)).setCell ⟨gb284, 4, none⟩ (.int .i64 t280)).setCell ⟨gb285, 0, none⟩ (.int .i64 t282)).setCell ⟨gb285, 1, none⟩ (.int .i64 t283)).heap[gb252]? = some (.cells #[.int .i64 x253000_2, .int .i64 x253001_2] 26 (0, 0))) := ⟨far2_ (far5_ (bk_ BK252.out) NB252_284.out) NB252_285.out⟩; have n6_ : Aside0 ((((((((w102.setCell ⟨gb284, 0, none⟩ (.string t272)).setCell ⟨gb284, 1, none⟩ (.slice Ao108 t273.length co108)).setCell ⟨gb284, 2, none⟩ (.bool t276)).setCell ⟨gb284, 3, none⟩ (.slice Ao109 t277.length co109)).setCell ⟨gb284, 4, none⟩ (.int .i64 t280)).setCell ⟨gb285, 0, none⟩ (.int .i64 t282)).setCell ⟨gb285, 1, none⟩ (.int .i64 t283)).heap[gb255]? = some (.cells #[.string ((rd_T46 l0 a1).f1), u256001, .bool true, u256003, .int .i64 ((rd_T46 l0 a1).f3)] 41 (0, 0))) := ⟨far2_ (far5_ (bk_ BK255.out) NB255_284.out) NB255_285.out⟩; have n7_ : Aside0 ((((((((w102.setCell ⟨gb284, 0, none⟩ (.string t272)).setCell ⟨gb284, 1, none⟩ (.slice Ao108 t273.length co108)).setCell ⟨gb284, 2, none⟩ (.bool t276)).setCell ⟨gb284, 3, none⟩ (.slice Ao109 t277.length co109)).setCell ⟨gb284, 4, none⟩ (.int .i64 t280)).setCell ⟨gb285, 0, none⟩ (.int .i64 t282)).setCell ⟨gb285, 1, none⟩ (.int .i64 t283)).heap[gb284]? = some (.cells #[.string t272, .slice Ao108 t273.length co108, .bool t276, .slice Ao109 t277.length co109, .int .i64 t280] 41 (0, 0))) := ⟨far2_ (put5_ (bk_ BK284.out)) NB284_285.out⟩; have n8_ : Aside0 ((((((((w102.setCell ⟨gb284, 0, none⟩ (.string t272)).setCell ⟨gb284, 1, none⟩ (.slice Ao108 t273.length co108)).setCell ⟨gb284, 2, none⟩ (.bool t276)).setCell ⟨gb284, 3, none⟩ (.slice Ao109 t277.length co109)).setCell ⟨gb284, 4, none⟩ (.int .i64 t280)).setCell ⟨gb285, 0, none⟩ (.int .i64 t282)).setCell ⟨gb285, 1, none⟩ (.int .i64 t283)).heap[gb285]? = some (.cells #[.int .i64 t282, .int .i64 t283] 26 (0, 0))) := ⟨by refine blk_put (cs := #[.int .i64 t282, .int .i64 0]) ?_ 1 _ rfl; refine blk_put (cs := #[.int .i64 0, .int .i64 0]) ?_ 0 _ rfl; exact far5_ (bk_ BK285.out) NB285_284.out⟩; have n9_ : Aside0 (Below w.heap.size w (((((((w102.setCell ⟨gb284, 0, none⟩ (.string t272)).setCell ⟨gb284, 1, none⟩ (.slice Ao108 t273.length co108)).setCell ⟨gb284, 2, none⟩ (.bool t276)).setCell ⟨gb284, 3, none⟩ (.slice Ao109 t277.length co109)).setCell ⟨gb284, 4, none⟩ (.int .i64 t280)).setCell ⟨gb285, 0, none⟩ (.int .i64 t282)).setCell ⟨gb285, 1, none⟩ (.int .i64 t283))) := ⟨bl5_ HB.out GE251.out GE252.out GE255.out GE284.out GE285.out⟩; (try clear HO_256001); (try clear HO_256003); (try clear HO275); (try clear HO279); (try clear BK251); (try clear BK252); (try clear BK255); (try clear BK284); (try clear BK285); (try clear HB); generalize (((((((w102.setCell ⟨gb284, 0, none⟩ (.string t272)).setCell ⟨gb284, 1, none⟩ (.slice Ao108 t273.length co108)).setCell ⟨gb284, 2, none⟩ (.bool t276)).setCell ⟨gb284, 3, none⟩ (.slice Ao109 t277.length co109)).setCell ⟨gb284, 4, none⟩ (.int .i64 t280)).setCell ⟨gb285, 0, none⟩ (.int .i64 t282)).setCell ⟨gb285, 1, none⟩ (.int .i64 t283)) = w114 at n0_ n1_ n2_ n3_ n4_ n5_ n6_ n7_ n8_ n9_ ⊢; have HO_256001 := n0_; have HO_256003 := n1_; have HO275 := n2_; have HO279 := n3_; have BK251 := n4_; have BK252 := n5_; have BK255 := n6_; have BK284 := n7_; have BK285 := n8_; have HB := n9_; clear n0_ n1_ n2_ n3_ n4_ n5_ n6_ n7_ n8_ n9_; refine cut10_ (Kd.R_drew HO_256001.out) (Kd.R_drew HO_256003.out) (Kd.R_drew HO275.out) (Kd.R_drew HO279.out) (blk_drew BK251.out) (blk_drew BK252.out) (blk_drew BK255.out) (blk_drew BK284.out) (blk_drew BK285.out) (below_drew1 HB.out) ?_; clear HO_256001 HO_256003 HO275 HO279 BK251 BK252 BK255 BK284 BK285 HB; intro HO_256001 HO_256003 HO275 HO279 BK251 BK252 BK255 BK284 BK285 HB; obtain ⟨Ao117, co117, eo117⟩ := Kd.R_slice HO_256001.out
   (first | subst eo117 | (injection eo117 with f1_ f2_ f3_; have f4_ := f1_.symm; have f5_ := f3_.symm; clear f1_ f2_ f3_; subst f4_; subst f5_))
   obtain ⟨Ao120, co120, eo120⟩ := Kd.R_slice HO_256003.out
   (first | subst eo120 | (injection eo120 with f1_ f2_ f3_; have f4_ := f1_.symm; have f5_ := f3_.symm; clear f1_ f2_ f3_; subst f4_; subst f5_))
   refine start_ (n := 6) (S := fun w' => w'.cell? ⟨gb255, 0, none⟩ = some (.string ((rd_T46 l0 a1).f1)) ∧ w'.cell? ⟨gb255, 1, none⟩ = some (.slice Ao117 x256001_1.length co117) ∧ w'.cell? ⟨gb255, 2, none⟩ = some (.bool true) ∧ w'.cell? ⟨gb255, 3, none⟩ = some (.slice Ao120 x256003_2.length co120) ∧ w'.cell? ⟨gb255, 4, none⟩ = some (.int .i64 ((rd_T46 l0 a1).f3)) ∧ w'.cell? ⟨gb285, 0, none⟩ = some (.int .i64 t282) ∧ w'.cell? ⟨gb285, 1, none⟩ = some (.int .i64 t283)) (ds := []) (bm_ 6 0) (by kernel_rfl) rfl (by kernel_rfl) ⟨ce_ BK255.out 0, ce_ BK255.out 1, ce_ BK255.out 2, ce_ BK255.out 3, ce_ BK255.out 4, ce_ BK285.out 0, ce_ BK285.out 1⟩ (fun hHeld => ?_); generalize w114.drew = w115 at HO_256001 HO_256003 HO275 HO279 BK251 BK252 BK255 BK284 BK285 HB hHeld ⊢; refine pr_ (i := 1) (N := some 111) (bm_ 6 2) (by kernel_rfl) ?_; refine take_ (i := 0) (N := some 110) (v := ?_) (a' := ?_) (bm_ 6 3) rfl rfl (by kernel_rfl) (fun _ _ _ h => h) (Or.inl ⟨by rfl, ?_⟩) hHeld ?_ ?_; rotate_left
   ·
    rintro w' ⟨s0, s1, s2, s3, s4, s5, s6⟩; go_simp
    with_reducible rfl
   rotate_left
   ·
    simp only [Act.put, List.setIfInBounds_toArray, List.set_cons_zero, List.set_cons_succ, i64_w, i32_w]
    rfl
   refine take_ (i := 2) (N := some 112) (v := ?_) (a' := ?_) (bm_ 6 7) rfl rfl (by kernel_rfl) (fun _ _ _ h => h) (Or.inl ⟨by rfl, ?_⟩) hHeld ?_ ?_; rotate_left
   ·
    rintro w' ⟨s0, s1, s2, s3, s4, s5, s6⟩; go_simp
    with_reducible rfl
   rotate_left
   ·
    simp only [Act.put, List.setIfInBounds_toArray, List.set_cons_zero, List.set_cons_succ, i64_w, i32_w]
    rfl
   refine one_ (i := 3) (N := none) (bm_ 6 15) rfl rfl (by kernel_rfl) (by decide) (fun K hK => ?_); have hs116 : w115.cell? ⟨gb251, 0, none⟩ = some (.string x252000_2) := (blk_cell BK251.out 0).trans rfl; have hfs116 := blk_frozen BK251.out 0; have hns116_1 := NB252_251.out; have hns116_2 := NB255_251.out; have hns116_3 := NB284_251.out; have hns116_4 := NB285_251.out; have hms116_1 := NB251_252.out; have hms116_2 := NB251_255.out; have hms116_3 := NB251_284.out; have hms116_4 := NB251_285.out; have hs118 : w115.cell? ⟨gb251, 1, none⟩ = some (.slice none 0 0) := (blk_cell BK251.out 1).trans rfl; have hfs118 := blk_frozen BK251.out 1; have hns118_1 := NB252_251.out; have hns118_2 := NB255_251.out; have hns118_3 := NB284_251.out; have hns118_4 := NB285_251.out; have hms118_1 := NB251_252.out; have hms118_2 := NB251_255.out; have hms118_3 := NB251_284.out; have hms118_4 := NB251_285.out; have hs119 : w115.cell? ⟨gb251, 2, none⟩ = some (.bool x252002_2) := (blk_cell BK251.out 2).trans rfl; have hfs119 := blk_frozen BK251.out 2; have hns119_1 := NB252_251.out; have hns119_2 := NB255_251.out; have hns119_3 := NB284_251.out; have hns119_4 := NB285_251.out; have hms119_1 := NB251_252.out; have hms119_2 := NB251_255.out; have hms119_3 := NB251_284.out; have hms119_4 := NB251_285.out; have hs121 : w115.cell? ⟨gb251, 3, none⟩ = some (.slice none 0 0) := (blk_cell BK251.out 3).trans rfl; have hfs121 := blk_frozen BK251.out 3; have hns121_1 := NB252_251.out; have hns121_2 := NB255_251.out; have hns121_3 := NB284_251.out; have hns121_4 := NB285_251.out; have hms121_1 := NB251_252.out; have hms121_2 := NB251_255.out; have hms121_3 := NB251_284.out; have hms121_4 := NB251_285.out; have hs122 : w115.cell? ⟨gb251, 4, none⟩ = some (.int .i64 x252004_2) := (blk_cell BK251.out 4).trans rfl; have hfs122 := blk_frozen BK251.out 4; have hns122_1 := NB252_251.out; have hns122_2 := NB255_251.out; have hns122_3 := NB284_251.out; have hns122_4 := NB285_251.out; have hms122_1 := NB251_252.out; have hms122_2 := NB251_255.out; have hms122_3 := NB251_284.out; have hms122_4 := NB251_285.out; refine sk_ ?_; refine hK.out _ _ ⟨(cf5_ gb251 NB255_251.out hHeld.1), (cf5_ gb251 NB255_251.out hHeld.2.1), (cf5_ gb251 NB255_251.out hHeld.2.2.1), (cf5_ gb251 NB255_251.out hHeld.2.2.2.1), (cf5_ gb251 NB255_251.out hHeld.2.2.2.2.1), (cf5_ gb251 NB285_251.out hHeld.2.2.2.2.2.1), (cf5_ gb251 NB285_251.out hHeld.2.2.2.2.2.2)⟩ (fun hHeld => ?_); clear hK K; refine pr_ (i := 4) (N := some 7) (bm_ 6 31) (by kernel_rfl) ?_; refine one_ (i := 5) (N := none) (bm_ 6 63) rfl rfl (by kernel_rfl) (by decide) (fun K hK => ?_); have hs123 : w115.cell? ⟨gb252, 0, none⟩ = some (.int .i64 x253000_2) := (blk_cell BK252.out 0).trans rfl; have hfs123 := blk_frozen BK252.out 0; have hns123_0 := NB251_252.out; have hns123_2 := NB255_252.out; have hns123_3 := NB284_252.out; have hns123_4 := NB285_252.out; have hms123_0 := NB252_251.out; have hms123_2 := NB252_255.out; have hms123_3 := NB252_284.out; have hms123_4 := NB252_285.out; have hs124 : w115.cell? ⟨gb252, 1, none⟩ = some (.int .i64 x253001_2) := (blk_cell BK252.out 1).trans rfl; have hfs124 := blk_frozen BK252.out 1; have hns124_0 := NB251_252.out; have hns124_2 := NB255_252.out; have hns124_3 := NB284_252.out; have hns124_4 := NB285_252.out; have hms124_0 := NB252_251.out; have hms124_2 := NB252_255.out; have hms124_3 := NB252_284.out; have hms124_4 := NB252_285.out; refine sk_ ?_; refine hK.out _ _ ⟨(cf2_ gb252 NB255_252.out hHeld.1), (cf2_ gb252 NB255_252.out hHeld.2.1), (cf2_ gb252 NB255_252.out hHeld.2.2.1), (cf2_ gb252 NB255_252.out hHeld.2.2.2.1), (cf2_ gb252 NB255_252.out hHeld.2.2.2.2.1), (cf2_ gb252 NB285_252.out hHeld.2.2.2.2.2.1), (cf2_ gb252 NB285_252.out hHeld.2.2.2.2.2.2)⟩ (fun hHeld => ?_); clear hK K; refine done_ (by kernel_rfl) ?_
   try go_wp2
   refine bodyPost_ret (results_list (rs := [.cell 6 41, .tmp 7, .cell 8 26]) rfl (by simp) (.cell gb251 41 #[.string ((rd_T46 l0 a1).f1), .slice Ao117 x256001_1.length co117, .bool true, .slice Ao120 x256003_2.length co120, .int .i64 ((rd_T46 l0 a1).f3)] (0, 0) _ rfl (by exact far2_ (put5_ (bk_ BK251.out)) NB251_252.out) Tryd.underlying41 rfl (by kernel_rfl) (.tmp (.cell gb252 26 #[.int .i64 t282, .int .i64 t283] (0, 0) _ rfl (by refine blk_put (cs := #[.int .i64 t282, .int .i64 x253001_2]) ?_ 1 _ rfl; refine blk_put (cs := #[.int .i64 x253000_2, .int .i64 x253001_2]) ?_ 0 _ rfl; exact far5_ (bk_ BK252.out) NB252_251.out) Tryd.underlying26 rfl (by kernel_rfl) .nil)))) rfl ?_; exact ⟨_, _, er_, rR_ (Kd.R_mono (rf2_ gb252 (Kd.R_far (p := ⟨gb251, 4, none⟩) (Kd.R_far (p := ⟨gb251, 3, none⟩) (Kd.R_far (p := ⟨gb251, 2, none⟩) (Kd.R_far (p := ⟨gb251, 1, none⟩) (Kd.R_far (p := ⟨gb251, 0, none⟩) (Kd.R_types (Kd.R_types HO_256001.out BK251.out (by decide)) BK252.out (by decide)) (fun _ hk => hk.1.2) (.string ((rd_T46 l0 a1).f1))) (fun _ hk => hk.1.2) (.slice Ao117 x256001_1.length co117)) (fun _ hk => hk.1.2) (.bool true)) (fun _ hk => hk.1.2) (.slice Ao120 x256003_2.length co120)) (fun _ hk => hk.1.2) (.int .i64 ((rd_T46 l0 a1).f3)))) (fun _ hk => trivial)), rR_ (Kd.R_mono (rf2_ gb252 (Kd.R_far (p := ⟨gb251, 4, none⟩) (Kd.R_far (p := ⟨gb251, 3, none⟩) (Kd.R_far (p := ⟨gb251, 2, none⟩) (Kd.R_far (p := ⟨gb251, 1, none⟩) (Kd.R_far (p := ⟨gb251, 0, none⟩) (Kd.R_types (Kd.R_mono HO_256003.out (fun k_ hk => (⟨hk, hk.2.2.2.1⟩ : _ ∧ k_ ≠ gb251))) BK252.out (by decide)) (fun _ hk => hk.1.2) (.string ((rd_T46 l0 a1).f1))) (fun _ hk => hk.1.2) (.slice Ao117 x256001_1.length co117)) (fun _ hk => hk.1.2) (.bool true)) (fun _ hk => hk.1.2) (.slice Ao120 x256003_2.length co120)) (fun _ hk => hk.1.2) (.int .i64 ((rd_T46 l0 a1).f3)))) (fun _ hk => hk.1.1.1)), bl5_ HB.out GE251.out GE252.out GE255.out GE284.out GE285.out⟩
def salchowref10_Parse.l0 : Nat → List (S46) → List (S41) → Int → Option ((List (S41)) × Int × Int)
 | 0, _, _, _ => none
 | k + 1, x4, x6, x7 => if 0 ≤ x7 then (if x7 < (x4.length : Int) then (if ((rd_T46 x4 x7).f0) = 5 then (some (x6, 0, 0)) else ((salchowref10_entry.f k x4 x7 0).bind fun bt297 => (if bt297.2.2.2.2.2.2.1 = 0 then (if x6.length < 1759218604441 then (salchowref10_Parse.l0 k x4 (x6 ++ [(⟨bt297.1, bt297.2.1, bt297.2.2.1, bt297.2.2.2.1, bt297.2.2.2.2.1⟩ : S41)]) bt297.2.2.2.2.2.1) else (none)) else (some (([] : List (S41)), bt297.2.2.2.2.2.2.1, bt297.2.2.2.2.2.2.2))))) else (none)) else (none)
def salchowref10_Parse.f (k : Nat) (a0 : ByteArray) : Option ((List (S41)) × Int × Int) := (salchowref09_Lex.f k a0).bind fun bt290 => (if bt290.2.1 = 0 then (salchowref10_Parse.l0 k bt290.1 ([] : List (S41)) 0) else (some (([] : List (S41)), bt290.2.1, bt290.2.2)))
theorem salchowref10_Parse.mono_l : ∀ k, (∀ y0 y1 y2, LeO (salchowref10_Parse.l0 k y0 y1 y2) (salchowref10_Parse.l0 (k + 1) y0 y1 y2))
 | 0 => fun _ _ _ r h => by simp [salchowref10_Parse.l0] at h
 | k + 1 => by
  have ih0 := salchowref10_Parse.mono_l k
  ·
   intro y0 y1 y2
   unfold salchowref10_Parse.l0
   repeat' first
   | (with_reducible exact LeO.refl _)
   | exact ih0 _ _ _
   | exact salchowref09_Lex.mono _ _
   | exact salchowref10_entry.mono _ _ _ _
   | exact LeO.none _
   | refine LeO.ite ?_ ?_
   | refine LeO.bind ?_ (fun _ => ?_)
theorem salchowref10_Parse.mono : ∀ a0 k, LeO (salchowref10_Parse.f k a0) (salchowref10_Parse.f (k + 1) a0) := by
 intro a0 k
 have ih0 := salchowref10_Parse.mono_l k
 unfold salchowref10_Parse.f
 repeat' first
   | (with_reducible exact LeO.refl _)
   | exact ih0 _ _ _
   | exact salchowref09_Lex.mono _ _
   | exact salchowref10_entry.mono _ _ _ _
   | exact LeO.none _
   | refine LeO.ite ?_ ?_
   | refine LeO.bind ?_ (fun _ => ?_)
theorem salchowref10_Parse.calls (k : Nat) (a0 : ByteArray) (r1 : List (S41)) (r2 : Int) (r3 : Int) (w : World) (h : salchowref10_Parse.f k a0 = some (r1, r2, r3)) :
  Calls Tryd.prog 23 #[.string a0] w fun e w' => ∃ v0_ : Value, e = .returned (.tuple #[v0_, .agg #[.int .i64 r2, .int .i64 r3]]) ∧ Kd.R k41 41 w' w.heap.size (fun _ => True) v0_ r1 ∧ Below w.heap.size w w' := by
 have hu26 := Tryd.underlying26; have hu41 := Tryd.underlying41; have HB := Aside0.mk (Below.refl w.heap.size w); have H : ((salchowref09_Lex.f k a0).bind fun bt290 => (if bt290.2.1 = 0 then (salchowref10_Parse.l0 k bt290.1 ([] : List (S41)) 0) else (some (([] : List (S41)), bt290.2.1, bt290.2.2)))) = some (r1, r2, r3) := h; clear h; replace H := bn_ H; obtain ⟨⟨t290, t293, t294⟩, A2, H⟩ := H; (try dsimp only at H); replace H := (sp_ H).symm; obtain ⟨c3, H⟩ | ⟨c3, H⟩ := H
 ·
  have c3b0 := beq_eq_false_iff_ne.mpr c3; have c3b1 := bne_iff_ne.mpr c3; simp only [Option.some.injEq, Prod.mk.injEq] at H; obtain ⟨rfl, rfl, rfl⟩ := H
  go_enter Tryd.func23, Tryd.ntmps23
  try go_wp2_with (first | ((with_reducible refine gate_dst (N := 3) rfl ?_); refine bx_ (N := 3) (cs := #[.int .i64 0, .int .i64 0]) (t := 26) ?_; intro gb289 hg w53 hbox hb; refine cut4_ (below_step (bl_ HB.out) hb) (hbox) (bz_ (w := w) hg (bl_ HB.out)) (bz_ (w := w) hg (bl_ HB.out)) ?_; clear HB; intro HB BK289 GW289 GE289; clear hb hbox hg) | ((with_reducible refine gate_callee (f := 33) rfl ?_); refine gk_ (some 13) Tryd.func33 (salchowref09_Lex.calls k a0 t290 t293 t294 _ A2.out) ?_; rintro e w54 ⟨v291, rfl, ho0, hb⟩; refine ⟨_, rfl, ?_⟩; refine cut3_ (Kd.R_lower ho0 (below_size (bl1_ HB.out GE289.out))) (bb_ BK289.out hb) (below_step (bl1_ HB.out GE289.out) hb) ?_; clear hb BK289 HB; intro HO292 BK289 HB; (try clear ho0)) | ((with_reducible refine gate_dst (N := 5) rfl ?_); refine bx_ (N := 5) (cs := #[.int .i64 0, .int .i64 0]) (t := 26) ?_; intro gb295 hg w55 hbox hb; refine cut8_ (Kd.R_below (rR_ HO292.out) hb) (bb_ BK289.out hb) (below_step (bl1_ HB.out GE289.out) hb) (hbox) (bz_ (w := w) hg (bl1_ HB.out GE289.out)) (bz_ (w := w) hg (bl1_ HB.out GE289.out)) (nl_ hg BK289.out) (ng_ hg BK289.out) ?_; clear HO292 BK289 HB; intro HO292 BK289 HB BK295 GW295 GE295 NB289_295 NB295_289; clear hb hbox hg; have hnb56 := NB295_289.out; have hnc56 := NB289_295.out; obtain ⟨hcz57_0, hcz57_1, hfz57_0, hfz57_1⟩ := cq2_ BK295.out))
  have n0_ : Aside0 (Kd.R k46 46 ((w55.setCell ⟨gb295, 0, none⟩ (.int .i64 t293)).setCell ⟨gb295, 1, none⟩ (.int .i64 t294)) w.heap.size (fun _ => True) v291 t290) := ⟨rR_ (Kd.R_mono (rf2_ gb295 (Kd.R_types HO292.out BK295.out (by decide))) (fun _ hk => trivial))⟩; have n1_ : Aside0 (((w55.setCell ⟨gb295, 0, none⟩ (.int .i64 t293)).setCell ⟨gb295, 1, none⟩ (.int .i64 t294)).heap[gb289]? = some (.cells #[.int .i64 0, .int .i64 0] 26 (0, 0))) := ⟨far2_ (bk_ BK289.out) NB289_295.out⟩; have n2_ : Aside0 (((w55.setCell ⟨gb295, 0, none⟩ (.int .i64 t293)).setCell ⟨gb295, 1, none⟩ (.int .i64 t294)).heap[gb295]? = some (.cells #[.int .i64 t293, .int .i64 t294] 26 (0, 0))) := ⟨put2_ (bk_ BK295.out)⟩; have n3_ : Aside0 (Below w.heap.size w ((w55.setCell ⟨gb295, 0, none⟩ (.int .i64 t293)).setCell ⟨gb295, 1, none⟩ (.int .i64 t294))) := ⟨bl2_ HB.out GE289.out GE295.out⟩; (try clear HO292); (try clear BK289); (try clear BK295); (try clear HB); generalize ((w55.setCell ⟨gb295, 0, none⟩ (.int .i64 t293)).setCell ⟨gb295, 1, none⟩ (.int .i64 t294)) = w58 at n0_ n1_ n2_ n3_ ⊢; have HO292 := n0_; have BK289 := n1_; have BK295 := n2_; have HB := n3_; clear n0_ n1_ n2_ n3_; refine cut4_ (Kd.R_drew HO292.out) (blk_drew BK289.out) (blk_drew BK295.out) (below_drew1 HB.out) ?_; clear HO292 BK289 BK295 HB; intro HO292 BK289 BK295 HB; refine start_ (n := 3) (S := fun w' => w'.cell? ⟨gb295, 0, none⟩ = some (.int .i64 t293) ∧ w'.cell? ⟨gb295, 1, none⟩ = some (.int .i64 t294)) (ds := []) #[false, false, false] (by kernel_rfl) rfl rfl ⟨ce_ BK295.out 0, ce_ BK295.out 1⟩ (fun hHeld => ?_); generalize w58.drew = w59 at HO292 BK289 BK295 HB hHeld ⊢; refine pr_ (i := 1) (N := some 2) #[false, true, false] (by kernel_rfl) ?_; refine take_ (i := 0) (N := some 19) (v := ?_) (a' := ?_) #[true, true, false] rfl rfl (by kernel_rfl) (fun _ _ _ h => h) (Or.inl ⟨by rfl, ?_⟩) hHeld ?_ ?_; rotate_left
  ·
   rintro w' ⟨s0, s1⟩; go_simp
   with_reducible rfl
  rotate_left
  ·
   simp only [Act.put, List.setIfInBounds_toArray, List.set_cons_zero, List.set_cons_succ, i64_w, i32_w]
   rfl
  refine one_ (i := 2) (N := none) #[true, true, true] rfl rfl (by kernel_rfl) (by decide) (fun K hK => ?_); have hs60 : w59.cell? ⟨gb289, 0, none⟩ = some (.int .i64 0) := (blk_cell BK289.out 0).trans rfl; have hfs60 := blk_frozen BK289.out 0; have hns60_1 := NB295_289.out; have hms60_1 := NB289_295.out; have hs61 : w59.cell? ⟨gb289, 1, none⟩ = some (.int .i64 0) := (blk_cell BK289.out 1).trans rfl; have hfs61 := blk_frozen BK289.out 1; have hns61_1 := NB295_289.out; have hms61_1 := NB289_295.out; refine sk_ ?_; refine hK.out _ _ ⟨(cf2_ gb289 NB295_289.out hHeld.1), (cf2_ gb289 NB295_289.out hHeld.2)⟩ (fun hHeld => ?_); clear hK K; refine done_ (by kernel_rfl) ?_
  try go_wp2
  refine bodyPost_ret (results_tc rfl _ _ gb289 26 #[.int .i64 t293, .int .i64 t294] (0, 0) _ rfl (by exact put2_ (bk_ BK289.out)) Tryd.underlying26 rfl (by kernel_rfl)) rfl ?_; exact ⟨_, er_, ni_, bl2_ HB.out GE289.out GE295.out⟩
 have c3b0 := beq_iff_eq.mpr c3; have c3b1 := bne_eq_false_iff_eq.mpr c3; clear c3; have H' := Aside0.mk H; clear H
 go_enter Tryd.func23, Tryd.ntmps23
 go_wp2_with (first | ((with_reducible refine gate_dst (N := 3) rfl ?_); refine bx_ (N := 3) (cs := #[.int .i64 0, .int .i64 0]) (t := 26) ?_; intro gb289 hg w4 hbox hb; refine cut4_ (below_step (bl_ HB.out) hb) (hbox) (bz_ (w := w) hg (bl_ HB.out)) (bz_ (w := w) hg (bl_ HB.out)) ?_; clear HB; intro HB BK289 GW289 GE289; clear hb hbox hg) | ((with_reducible refine gate_callee (f := 33) rfl ?_); refine gk_ (some 13) Tryd.func33 (salchowref09_Lex.calls k a0 t290 t293 t294 _ A2.out) ?_; rintro e w5 ⟨v291, rfl, ho0, hb⟩; refine ⟨_, rfl, ?_⟩; refine cut3_ (Kd.R_lower ho0 (below_size (bl1_ HB.out GE289.out))) (bb_ BK289.out hb) (below_step (bl1_ HB.out GE289.out) hb) ?_; clear hb BK289 HB; intro HO292 BK289 HB; (try clear ho0)) | ((with_reducible refine gate_dst (N := 5) rfl ?_); refine bx_ (N := 5) (cs := #[.int .i64 0, .int .i64 0]) (t := 26) ?_; intro gb295 hg w6 hbox hb; refine cut8_ (Kd.R_below (rR_ HO292.out) hb) (bb_ BK289.out hb) (below_step (bl1_ HB.out GE289.out) hb) (hbox) (bz_ (w := w) hg (bl1_ HB.out GE289.out)) (bz_ (w := w) hg (bl1_ HB.out GE289.out)) (nl_ hg BK289.out) (ng_ hg BK289.out) ?_; clear HO292 BK289 HB; intro HO292 BK289 HB BK295 GW295 GE295 NB289_295 NB295_289; clear hb hbox hg; have hnb7 := NB295_289.out; have hnc7 := NB289_295.out; obtain ⟨hcz8_0, hcz8_1, hfz8_0, hfz8_1⟩ := cq2_ BK295.out))
 go_loopg [6, 7] k (fun kq v6 v7 w' => ∃ (x6_1 : List (S41)) (x7_1 : Int) (x290000_1 : Int) (x290001_1 : Int), v7 = .int .i64 x7_1 ∧ Aside0 (salchowref10_Parse.l0 kq t290 x6_1 x7_1 = some (r1, r2, r3)) ∧ Aside0 (kq ≤ k) ∧ Aside0 (Kd.R k46 46 w' w.heap.size (fun _ => True) v291 t290) ∧ Aside0 (Kd.R k41 41 w' w.heap.size (fun k_ => some k_ ≠ (v291 : Value).ownBlock) v6 x6_1) ∧ Aside0 (w'.heap[gb289]? = some (.cells #[.int .i64 x290000_1, .int .i64 x290001_1] 26 (0, 0))) ∧ Aside0 (w'.heap[gb295]? = some (.cells #[.int .i64 t293, .int .i64 t294] 26 (0, 0))) ∧ Aside0 (Below w.heap.size w w'))
 case atStart => exact ⟨(([] : List (S41))), (0), (0), (0), sr_, H', ⟨Nat.le_refl _⟩, ⟨rR_ (Kd.R_mono (rf2_ gb295 (Kd.R_types HO292.out BK295.out (by decide))) (fun _ hk => trivial))⟩, ⟨ni_⟩, ⟨far2_ (bk_ BK289.out) NB289_295.out⟩, ⟨put2_ (bk_ BK295.out)⟩, ⟨bl2_ HB.out GE289.out GE295.out⟩⟩
 case round =>
  clear H'; (try clear c3); (try clear c3b0); (try clear c3b1); (try clear hcz8_0); (try clear hcz8_1); (try clear hfz8_0); (try clear hfz8_1); obtain ⟨x6_1, x7_1, x290000_1, x290001_1, rfl, HA, HK1, HO_4, HO_6, BK289, BK295, HB⟩ := hrel; obtain _ | k1 := gk
  · exact absurd HA.out (by simp [salchowref10_Parse.l0])
  have H := HA.out; clear HA; simp only [salchowref10_Parse.l0] at H; replace H := gd_ H; obtain ⟨c9b0, H⟩ := H; replace H := gd_ H; obtain ⟨c10b0, H⟩ := H; replace H := sp_ H; obtain ⟨c11, H⟩ | ⟨c11, H⟩ := H
  ·
   have c11b0 := beq_iff_eq.mpr c11; have c11b1 := bne_eq_false_iff_eq.mpr c11; clear c11; simp only [Option.some.injEq, Prod.mk.injEq] at H; obtain ⟨rfl, rfl, rfl⟩ := H; obtain ⟨Ao12, co12, eo12⟩ := Kd.R_slice HO_4.out; subst eo12; have p296 : 0 ≤ (x7_1 : Int) := dt_; have q296 : x7_1 < (t290.length : Int) := dt_; obtain ⟨ad296, e296, hx296_0, hx296_1, hx296_2, hx296_3⟩ := at_T46 (Kd.R_reads' HO_4.out).2.2 x7_1 p296 q296; cases e296; replace p296 := eq_true p296; replace q296 := eq_true q296; have hnb13 := NB289_295.out; have hnc13 := NB295_289.out; obtain ⟨hcz14_0, hcz14_1, hfz14_0, hfz14_1⟩ := cq2_ BK289.out
   go_wp2
   refine bodyPost_ret (results_tc rfl _ _ gb289 26 #[.int .i64 0, .int .i64 0] (0, 0) _ rfl (by exact put2_ (bk_ BK289.out)) Tryd.underlying26 rfl (by kernel_rfl)) rfl ?_; exact ⟨_, er_, rR_ (Kd.R_mono (rf2_ gb289 (Kd.R_types HO_6.out BK289.out (by decide))) (fun _ hk => trivial)), bl2_ HB.out GE289.out GE295.out⟩
  have c11b0 := beq_eq_false_iff_ne.mpr c11; have c11b1 := bne_iff_ne.mpr c11; replace H := bn_ H; obtain ⟨⟨t297, t298, t301, t302, t305, t306, t307, t308⟩, A15, H⟩ := H; (try dsimp only at H); replace H := (sp_ H).symm; obtain ⟨c16, H⟩ | ⟨c16, H⟩ := H
  ·
   have c16b0 := beq_eq_false_iff_ne.mpr c16; have c16b1 := bne_iff_ne.mpr c16; simp only [Option.some.injEq, Prod.mk.injEq] at H; obtain ⟨rfl, rfl, rfl⟩ := H; obtain ⟨Ao36, co36, eo36⟩ := Kd.R_slice HO_4.out; subst eo36; have p296 : 0 ≤ (x7_1 : Int) := dt_; have q296 : x7_1 < (t290.length : Int) := dt_; obtain ⟨ad296, e296, hx296_0, hx296_1, hx296_2, hx296_3⟩ := at_T46 (Kd.R_reads' HO_4.out).2.2 x7_1 p296 q296; cases e296; replace p296 := eq_true p296; replace q296 := eq_true q296
   try go_wp2_with (first | ((with_reducible refine gate_callee (f := 53) rfl ?_); refine gk_ (some 29) Tryd.func53 (salchowref10_entry.calls k1 _ _ t290 x7_1 0 t297 t298 t301 t302 t305 t306 t307 t308 _ ?side1 ?side2 A15.out) ?_; (case side1 => repeat (first | exact (Kd.R_reads' HO_4.out).2.2 | (with_reducible refine Kd.C_alloc ?_ _) | (with_reducible refine Kd.C_drewN ?_ _) | (with_reducible refine Kd.C_drew ?_))); (case side2 => exact (Kd.R_reads' HO_4.out).2.1); rintro e w37 ⟨v299, v303, rfl, ho0, ho1, hb⟩; refine ⟨_, rfl, ?_⟩; refine cut7_ (Kd.R_elder' (rR_ HO_4.out) (Kd.R_base ho0) hb) (Kd.R_mono (Kd.R_told (Kd.R_told (Kd.R_old (rR_ HO_6.out) hb) (Kd.R_base ho0)) (Kd.R_base ho1)) (fun _ h_ => h_.1)) (Kd.R_lower (Kd.R_new' ho0 (Kd.R_lt (rR_ HO_4.out))) (below_size (bl2_ HB.out GE289.out GE295.out))) (Kd.R_lower (Kd.R_new' (Kd.R_new' ho1 (Kd.R_lt (rR_ HO_4.out))) (Kd.R_lt (rR_ HO_6.out))) (below_size (bl2_ HB.out GE289.out GE295.out))) (bb_ BK289.out hb) (bb_ BK295.out hb) (below_step (bl2_ HB.out GE289.out GE295.out) hb) ?_; clear hb HO_4 HO_6 BK289 BK295 HB; intro HO_4 HO_6 HO300 HO304 BK289 BK295 HB; (try clear ho0); (try clear ho1)) | ((with_reducible refine gate_dst (N := 8) rfl ?_); refine bx_ (N := 8) (cs := #[.string (⟨#[]⟩ : ByteArray), .slice none 0 0, .bool false, .slice none 0 0, .int .i64 0]) (t := 41) ?_; intro gb309 hg w38 hbox hb; refine cut14_ (Kd.R_below (rR_ HO_4.out) hb) (Kd.R_below (Kd.R_elderB (rR_ HO_6.out) gb309 (Nat.le_of_eq hg.symm)) hb) (Kd.R_below (rR_ HO300.out) hb) (Kd.R_below (Kd.R_elderB (rR_ HO304.out) gb309 (Nat.le_of_eq hg.symm)) hb) (bb_ BK289.out hb) (bb_ BK295.out hb) (below_step (bl2_ HB.out GE289.out GE295.out) hb) (hbox) (bz_ (w := w) hg (bl2_ HB.out GE289.out GE295.out)) (bz_ (w := w) hg (bl2_ HB.out GE289.out GE295.out)) (nl_ hg BK289.out) (ng_ hg BK289.out) (nl_ hg BK295.out) (ng_ hg BK295.out) ?_; clear HO_4 HO_6 HO300 HO304 BK289 BK295 HB; intro HO_4 HO_6 HO300 HO304 BK289 BK295 HB BK309 GW309 GE309 NB289_309 NB309_289 NB295_309 NB309_295; clear hb hbox hg) | ((with_reducible refine gate_dst (N := 10) rfl ?_); refine bx_ (N := 10) (cs := #[.int .i64 0, .int .i64 0]) (t := 26) ?_; intro gb310 hg w39 hbox hb; refine cut17_ (Kd.R_below (rR_ HO_4.out) hb) (Kd.R_below (rR_ HO_6.out) hb) (Kd.R_below (rR_ HO300.out) hb) (Kd.R_below (rR_ HO304.out) hb) (bb_ BK289.out hb) (bb_ BK295.out hb) (bb_ BK309.out hb) (below_step (bl3_ HB.out GE289.out GE295.out GE309.out) hb) (hbox) (bz_ (w := w) hg (bl3_ HB.out GE289.out GE295.out GE309.out)) (bz_ (w := w) hg (bl3_ HB.out GE289.out GE295.out GE309.out)) (nl_ hg BK289.out) (ng_ hg BK289.out) (nl_ hg BK295.out) (ng_ hg BK295.out) (nl_ hg BK309.out) (ng_ hg BK309.out) ?_; clear HO_4 HO_6 HO300 HO304 BK289 BK295 BK309 HB; intro HO_4 HO_6 HO300 HO304 BK289 BK295 BK309 HB BK310 GW310 GE310 NB289_310 NB310_289 NB295_310 NB310_295 NB309_310 NB310_309; clear hb hbox hg; have hnb40 := NB309_289.out; have hnc40 := NB289_309.out; have hnb41 := NB309_295.out; have hnc41 := NB295_309.out; have hnb42 := NB309_310.out; have hnc42 := NB310_309.out; obtain ⟨hcz43_0, hcz43_1, hcz43_2, hcz43_3, hcz43_4, hfz43_0, hfz43_1, hfz43_2, hfz43_3, hfz43_4⟩ := cq5_ BK309.out; obtain ⟨Ao44, co44, eo44⟩ := Kd.R_slice HO300.out; subst eo44; obtain ⟨Ao45, co45, eo45⟩ := Kd.R_slice HO304.out; subst eo45; have hnb46 := NB310_289.out; have hnc46 := NB289_310.out; have hnb47 := NB310_295.out; have hnc47 := NB295_310.out; obtain ⟨hcz48_0, hcz48_1, hfz48_0, hfz48_1⟩ := cq2_ BK310.out))
   have n0_ : Aside0 (Kd.R k46 46 (((((((w39.setCell ⟨gb309, 0, none⟩ (.string t297)).setCell ⟨gb309, 1, none⟩ (.slice Ao44 t298.length co44)).setCell ⟨gb309, 2, none⟩ (.bool t301)).setCell ⟨gb309, 3, none⟩ (.slice Ao45 t302.length co45)).setCell ⟨gb309, 4, none⟩ (.int .i64 t305)).setCell ⟨gb310, 0, none⟩ (.int .i64 t307)).setCell ⟨gb310, 1, none⟩ (.int .i64 t308)) w.heap.size (fun k_ => some k_ ≠ (.slice Ao44 t298.length co44 : Value).ownBlock) (.slice (some ad296) t290.length co36) t290) := ⟨rR_ (Kd.R_mono (rf2_ gb310 (Kd.R_far (p := ⟨gb309, 4, none⟩) (Kd.R_far (p := ⟨gb309, 3, none⟩) (Kd.R_far (p := ⟨gb309, 2, none⟩) (Kd.R_far (p := ⟨gb309, 1, none⟩) (Kd.R_far (p := ⟨gb309, 0, none⟩) (Kd.R_types (Kd.R_types HO_4.out BK309.out (by decide)) BK310.out (by decide)) (fun _ hk => hk.1.2) (.string t297)) (fun _ hk => hk.1.2) (.slice Ao44 t298.length co44)) (fun _ hk => hk.1.2) (.bool t301)) (fun _ hk => hk.1.2) (.slice Ao45 t302.length co45)) (fun _ hk => hk.1.2) (.int .i64 t305))) (fun _ hk => hk.1.1.2))⟩; have n1_ : Aside0 (Kd.R k41 41 (((((((w39.setCell ⟨gb309, 0, none⟩ (.string t297)).setCell ⟨gb309, 1, none⟩ (.slice Ao44 t298.length co44)).setCell ⟨gb309, 2, none⟩ (.bool t301)).setCell ⟨gb309, 3, none⟩ (.slice Ao45 t302.length co45)).setCell ⟨gb309, 4, none⟩ (.int .i64 t305)).setCell ⟨gb310, 0, none⟩ (.int .i64 t307)).setCell ⟨gb310, 1, none⟩ (.int .i64 t308)) w.heap.size (fun k_ => some k_ ≠ (.slice (some ad296) t290.length co36 : Value).ownBlock ∧ some k_ ≠ (.slice Ao44 t298.length co44 : Value).ownBlock ∧ some k_ ≠ (.slice Ao45 t302.length co45 : Value).ownBlock ∧ k_ ≠ gb309) u6 x6_1) := ⟨by (with_reducible repeat (first | apply Kd.R_alloc | apply Kd.R_drewN | apply Kd.R_drew)); exact Kd.R_mono (rf2_ gb310 (Kd.R_far (p := ⟨gb309, 4, none⟩) (Kd.R_far (p := ⟨gb309, 3, none⟩) (Kd.R_far (p := ⟨gb309, 2, none⟩) (Kd.R_far (p := ⟨gb309, 1, none⟩) (Kd.R_far (p := ⟨gb309, 0, none⟩) (Kd.R_types (Kd.R_mono HO_6.out (fun k_ hk => (⟨hk, hk.2⟩ : _ ∧ k_ ≠ gb309))) BK310.out (by decide)) (fun _ hk => hk.1.2) (.string t297)) (fun _ hk => hk.1.2) (.slice Ao44 t298.length co44)) (fun _ hk => hk.1.2) (.bool t301)) (fun _ hk => hk.1.2) (.slice Ao45 t302.length co45)) (fun _ hk => hk.1.2) (.int .i64 t305))) (fun _ hk => ⟨hk.1.1.1.1.1, ⟨hk.1.1.1.1.2, ⟨hk.1.1.1.2, hk.1.1.2⟩⟩⟩)⟩; have n2_ : Aside0 (Kd.R k46 46 (((((((w39.setCell ⟨gb309, 0, none⟩ (.string t297)).setCell ⟨gb309, 1, none⟩ (.slice Ao44 t298.length co44)).setCell ⟨gb309, 2, none⟩ (.bool t301)).setCell ⟨gb309, 3, none⟩ (.slice Ao45 t302.length co45)).setCell ⟨gb309, 4, none⟩ (.int .i64 t305)).setCell ⟨gb310, 0, none⟩ (.int .i64 t307)).setCell ⟨gb310, 1, none⟩ (.int .i64 t308)) w.heap.size (fun k_ => some k_ ≠ (.slice (some ad296) t290.length co36 : Value).ownBlock) (.slice Ao44 t298.length co44) t298) := ⟨rR_ (Kd.R_mono (rf2_ gb310 (Kd.R_far (p := ⟨gb309, 4, none⟩) (Kd.R_far (p := ⟨gb309, 3, none⟩) (Kd.R_far (p := ⟨gb309, 2, none⟩) (Kd.R_far (p := ⟨gb309, 1, none⟩) (Kd.R_far (p := ⟨gb309, 0, none⟩) (Kd.R_types (Kd.R_types HO300.out BK309.out (by decide)) BK310.out (by decide)) (fun _ hk => hk.1.2) (.string t297)) (fun _ hk => hk.1.2) (.slice Ao44 t298.length co44)) (fun _ hk => hk.1.2) (.bool t301)) (fun _ hk => hk.1.2) (.slice Ao45 t302.length co45)) (fun _ hk => hk.1.2) (.int .i64 t305))) (fun _ hk => hk.1.1.2))⟩; have n3_ : Aside0 (Kd.R k41 41 (((((((w39.setCell ⟨gb309, 0, none⟩ (.string t297)).setCell ⟨gb309, 1, none⟩ (.slice Ao44 t298.length co44)).setCell ⟨gb309, 2, none⟩ (.bool t301)).setCell ⟨gb309, 3, none⟩ (.slice Ao45 t302.length co45)).setCell ⟨gb309, 4, none⟩ (.int .i64 t305)).setCell ⟨gb310, 0, none⟩ (.int .i64 t307)).setCell ⟨gb310, 1, none⟩ (.int .i64 t308)) w.heap.size (fun k_ => some k_ ≠ (.slice (some ad296) t290.length co36 : Value).ownBlock ∧ some k_ ≠ (u6 : Value).ownBlock ∧ some k_ ≠ (.slice Ao44 t298.length co44 : Value).ownBlock ∧ k_ ≠ gb309) (.slice Ao45 t302.length co45) t302) := ⟨by (with_reducible repeat (first | apply Kd.R_alloc | apply Kd.R_drewN | apply Kd.R_drew)); exact Kd.R_mono (rf2_ gb310 (Kd.R_far (p := ⟨gb309, 4, none⟩) (Kd.R_far (p := ⟨gb309, 3, none⟩) (Kd.R_far (p := ⟨gb309, 2, none⟩) (Kd.R_far (p := ⟨gb309, 1, none⟩) (Kd.R_far (p := ⟨gb309, 0, none⟩) (Kd.R_types (Kd.R_mono HO304.out (fun k_ hk => (⟨hk, hk.2⟩ : _ ∧ k_ ≠ gb309))) BK310.out (by decide)) (fun _ hk => hk.1.2) (.string t297)) (fun _ hk => hk.1.2) (.slice Ao44 t298.length co44)) (fun _ hk => hk.1.2) (.bool t301)) (fun _ hk => hk.1.2) (.slice Ao45 t302.length co45)) (fun _ hk => hk.1.2) (.int .i64 t305))) (fun _ hk => ⟨hk.1.1.1.1.2, ⟨hk.1.1.1.2, ⟨hk.1.1.1.1.1, hk.1.1.2⟩⟩⟩)⟩; have n4_ : Aside0 ((((((((w39.setCell ⟨gb309, 0, none⟩ (.string t297)).setCell ⟨gb309, 1, none⟩ (.slice Ao44 t298.length co44)).setCell ⟨gb309, 2, none⟩ (.bool t301)).setCell ⟨gb309, 3, none⟩ (.slice Ao45 t302.length co45)).setCell ⟨gb309, 4, none⟩ (.int .i64 t305)).setCell ⟨gb310, 0, none⟩ (.int .i64 t307)).setCell ⟨gb310, 1, none⟩ (.int .i64 t308)).heap[gb289]? = some (.cells #[.int .i64 x290000_1, .int .i64 x290001_1] 26 (0, 0))) := ⟨far2_ (far5_ (bk_ BK289.out) NB289_309.out) NB289_310.out⟩; have n5_ : Aside0 ((((((((w39.setCell ⟨gb309, 0, none⟩ (.string t297)).setCell ⟨gb309, 1, none⟩ (.slice Ao44 t298.length co44)).setCell ⟨gb309, 2, none⟩ (.bool t301)).setCell ⟨gb309, 3, none⟩ (.slice Ao45 t302.length co45)).setCell ⟨gb309, 4, none⟩ (.int .i64 t305)).setCell ⟨gb310, 0, none⟩ (.int .i64 t307)).setCell ⟨gb310, 1, none⟩ (.int .i64 t308)).heap[gb295]? = some (.cells #[.int .i64 t293, .int .i64 t294] 26 (0, 0))) := ⟨far2_ (far5_ (bk_ BK295.out) NB295_309.out) NB295_310.out⟩; have n6_ : Aside0 ((((((((w39.setCell ⟨gb309, 0, none⟩ (.string t297)).setCell ⟨gb309, 1, none⟩ (.slice Ao44 t298.length co44)).setCell ⟨gb309, 2, none⟩ (.bool t301)).setCell ⟨gb309, 3, none⟩ (.slice Ao45 t302.length co45)).setCell ⟨gb309, 4, none⟩ (.int .i64 t305)).setCell ⟨gb310, 0, none⟩ (.int .i64 t307)).setCell ⟨gb310, 1, none⟩ (.int .i64 t308)).heap[gb309]? = some (.cells #[.string t297, .slice Ao44 t298.length co44, .bool t301, .slice Ao45 t302.length co45, .int .i64 t305] 41 (0, 0))) := ⟨far2_ (put5_ (bk_ BK309.out)) NB309_310.out⟩; have n7_ : Aside0 ((((((((w39.setCell ⟨gb309, 0, none⟩ (.string t297)).setCell ⟨gb309, 1, none⟩ (.slice Ao44 t298.length co44)).setCell ⟨gb309, 2, none⟩ (.bool t301)).setCell ⟨gb309, 3, none⟩ (.slice Ao45 t302.length co45)).setCell ⟨gb309, 4, none⟩ (.int .i64 t305)).setCell ⟨gb310, 0, none⟩ (.int .i64 t307)).setCell ⟨gb310, 1, none⟩ (.int .i64 t308)).heap[gb310]? = some (.cells #[.int .i64 t307, .int .i64 t308] 26 (0, 0))) := ⟨by refine blk_put (cs := #[.int .i64 t307, .int .i64 0]) ?_ 1 _ rfl; refine blk_put (cs := #[.int .i64 0, .int .i64 0]) ?_ 0 _ rfl; exact far5_ (bk_ BK310.out) NB310_309.out⟩; have n8_ : Aside0 (Below w.heap.size w (((((((w39.setCell ⟨gb309, 0, none⟩ (.string t297)).setCell ⟨gb309, 1, none⟩ (.slice Ao44 t298.length co44)).setCell ⟨gb309, 2, none⟩ (.bool t301)).setCell ⟨gb309, 3, none⟩ (.slice Ao45 t302.length co45)).setCell ⟨gb309, 4, none⟩ (.int .i64 t305)).setCell ⟨gb310, 0, none⟩ (.int .i64 t307)).setCell ⟨gb310, 1, none⟩ (.int .i64 t308))) := ⟨bl4_ HB.out GE289.out GE295.out GE309.out GE310.out⟩; (try clear HO_4); (try clear HO_6); (try clear HO300); (try clear HO304); (try clear BK289); (try clear BK295); (try clear BK309); (try clear BK310); (try clear HB); generalize (((((((w39.setCell ⟨gb309, 0, none⟩ (.string t297)).setCell ⟨gb309, 1, none⟩ (.slice Ao44 t298.length co44)).setCell ⟨gb309, 2, none⟩ (.bool t301)).setCell ⟨gb309, 3, none⟩ (.slice Ao45 t302.length co45)).setCell ⟨gb309, 4, none⟩ (.int .i64 t305)).setCell ⟨gb310, 0, none⟩ (.int .i64 t307)).setCell ⟨gb310, 1, none⟩ (.int .i64 t308)) = w49 at n0_ n1_ n2_ n3_ n4_ n5_ n6_ n7_ n8_ ⊢; have HO_4 := n0_; have HO_6 := n1_; have HO300 := n2_; have HO304 := n3_; have BK289 := n4_; have BK295 := n5_; have BK309 := n6_; have BK310 := n7_; have HB := n8_; clear n0_ n1_ n2_ n3_ n4_ n5_ n6_ n7_ n8_; refine cut9_ (Kd.R_drew HO_4.out) (Kd.R_drew HO_6.out) (Kd.R_drew HO300.out) (Kd.R_drew HO304.out) (blk_drew BK289.out) (blk_drew BK295.out) (blk_drew BK309.out) (blk_drew BK310.out) (below_drew1 HB.out) ?_; clear HO_4 HO_6 HO300 HO304 BK289 BK295 BK309 BK310 HB; intro HO_4 HO_6 HO300 HO304 BK289 BK295 BK309 BK310 HB; refine start_ (n := 3) (S := fun w' => w'.cell? ⟨gb310, 0, none⟩ = some (.int .i64 t307) ∧ w'.cell? ⟨gb310, 1, none⟩ = some (.int .i64 t308)) (ds := []) #[false, false, false] (by kernel_rfl) rfl rfl ⟨ce_ BK310.out 0, ce_ BK310.out 1⟩ (fun hHeld => ?_); generalize w49.drew = w50 at HO_4 HO_6 HO300 HO304 BK289 BK295 BK309 BK310 HB hHeld ⊢; refine pr_ (i := 1) (N := some 2) #[false, true, false] (by kernel_rfl) ?_; refine take_ (i := 0) (N := some 36) (v := ?_) (a' := ?_) #[true, true, false] rfl rfl (by kernel_rfl) (fun _ _ _ h => h) (Or.inl ⟨by rfl, ?_⟩) hHeld ?_ ?_; rotate_left
   ·
    rintro w' ⟨s0, s1⟩; go_simp
    with_reducible rfl
   rotate_left
   ·
    simp only [Act.put, List.setIfInBounds_toArray, List.set_cons_zero, List.set_cons_succ, i64_w, i32_w]
    rfl
   refine one_ (i := 2) (N := none) #[true, true, true] rfl rfl (by kernel_rfl) (by decide) (fun K hK => ?_); have hs51 : w50.cell? ⟨gb289, 0, none⟩ = some (.int .i64 x290000_1) := (blk_cell BK289.out 0).trans rfl; have hfs51 := blk_frozen BK289.out 0; have hns51_1 := NB295_289.out; have hns51_2 := NB309_289.out; have hns51_3 := NB310_289.out; have hms51_1 := NB289_295.out; have hms51_2 := NB289_309.out; have hms51_3 := NB289_310.out; have hs52 : w50.cell? ⟨gb289, 1, none⟩ = some (.int .i64 x290001_1) := (blk_cell BK289.out 1).trans rfl; have hfs52 := blk_frozen BK289.out 1; have hns52_1 := NB295_289.out; have hns52_2 := NB309_289.out; have hns52_3 := NB310_289.out; have hms52_1 := NB289_295.out; have hms52_2 := NB289_309.out; have hms52_3 := NB289_310.out; refine sk_ ?_; refine hK.out _ _ ⟨(cf2_ gb289 NB310_289.out hHeld.1), (cf2_ gb289 NB310_289.out hHeld.2)⟩ (fun hHeld => ?_); clear hK K; refine done_ (by kernel_rfl) ?_
   try go_wp2
   refine bodyPost_ret (results_tc rfl _ _ gb289 26 #[.int .i64 t307, .int .i64 t308] (0, 0) _ rfl (by exact put2_ (bk_ BK289.out)) Tryd.underlying26 rfl (by kernel_rfl)) rfl ?_; exact ⟨_, er_, ni_, bl4_ HB.out GE289.out GE295.out GE309.out GE310.out⟩
  have c16b0 := beq_iff_eq.mpr c16; have c16b1 := bne_eq_false_iff_eq.mpr c16; clear c16; replace H := gp_ H; obtain ⟨c17, H⟩ := H; have LMc17 := Aside0.mk c17; clear c17; obtain ⟨y311, hy311⟩ : ∃ y_ : List (S41), y_ = (x6_1 ++ [(⟨t297, t298, t301, t302, t305⟩ : S41)]) := ⟨_, rfl⟩; replace H : (salchowref10_Parse.l0 k1 t290 y311 t306) = some (r1, r2, r3) := by first | (rw [hy311]; with_reducible exact H) | (have H2_ := (Option.bind_some _ _).symm.trans H; rw [hy311]; with_reducible exact H2_) | (have H2_ := (Option.bind_some _ _).symm.trans H; with_reducible exact H2_) | with_reducible exact H | (rw [hy311]; exact H) | exact H
  have Ny311 := Aside0.mk hy311; clear hy311; have H' := Aside0.mk H; clear H; obtain ⟨Ao18, co18, eo18⟩ := Kd.R_slice HO_4.out; subst eo18; have p296 : 0 ≤ (x7_1 : Int) := dt_; have q296 : x7_1 < (t290.length : Int) := dt_; obtain ⟨ad296, e296, hx296_0, hx296_1, hx296_2, hx296_3⟩ := at_T46 (Kd.R_reads' HO_4.out).2.2 x7_1 p296 q296; cases e296; replace p296 := eq_true p296; replace q296 := eq_true q296
  go_wp2_with (first | ((with_reducible refine gate_callee (f := 53) rfl ?_); refine gk_ (some 29) Tryd.func53 (salchowref10_entry.calls k1 _ _ t290 x7_1 0 t297 t298 t301 t302 t305 t306 t307 t308 _ ?side1 ?side2 A15.out) ?_; (case side1 => repeat (first | exact (Kd.R_reads' HO_4.out).2.2 | (with_reducible refine Kd.C_alloc ?_ _) | (with_reducible refine Kd.C_drewN ?_ _) | (with_reducible refine Kd.C_drew ?_))); (case side2 => exact (Kd.R_reads' HO_4.out).2.1); rintro e w19 ⟨v299, v303, rfl, ho0, ho1, hb⟩; refine ⟨_, rfl, ?_⟩; refine cut7_ (Kd.R_elder' (rR_ HO_4.out) (Kd.R_base ho0) hb) (Kd.R_mono (Kd.R_told (Kd.R_told (Kd.R_old (rR_ HO_6.out) hb) (Kd.R_base ho0)) (Kd.R_base ho1)) (fun _ h_ => h_.1)) (Kd.R_lower (Kd.R_new' ho0 (Kd.R_lt (rR_ HO_4.out))) (below_size (bl2_ HB.out GE289.out GE295.out))) (Kd.R_lower (Kd.R_new' (Kd.R_new' ho1 (Kd.R_lt (rR_ HO_4.out))) (Kd.R_lt (rR_ HO_6.out))) (below_size (bl2_ HB.out GE289.out GE295.out))) (bb_ BK289.out hb) (bb_ BK295.out hb) (below_step (bl2_ HB.out GE289.out GE295.out) hb) ?_; clear hb HO_4 HO_6 BK289 BK295 HB; intro HO_4 HO_6 HO300 HO304 BK289 BK295 HB; (try clear ho0); (try clear ho1)) | ((with_reducible refine gate_dst (N := 8) rfl ?_); refine bx_ (N := 8) (cs := #[.string (⟨#[]⟩ : ByteArray), .slice none 0 0, .bool false, .slice none 0 0, .int .i64 0]) (t := 41) ?_; intro gb309 hg w20 hbox hb; refine cut14_ (Kd.R_below (rR_ HO_4.out) hb) (Kd.R_below (Kd.R_elderB (rR_ HO_6.out) gb309 (Nat.le_of_eq hg.symm)) hb) (Kd.R_below (rR_ HO300.out) hb) (Kd.R_below (Kd.R_elderB (rR_ HO304.out) gb309 (Nat.le_of_eq hg.symm)) hb) (bb_ BK289.out hb) (bb_ BK295.out hb) (below_step (bl2_ HB.out GE289.out GE295.out) hb) (hbox) (bz_ (w := w) hg (bl2_ HB.out GE289.out GE295.out)) (bz_ (w := w) hg (bl2_ HB.out GE289.out GE295.out)) (nl_ hg BK289.out) (ng_ hg BK289.out) (nl_ hg BK295.out) (ng_ hg BK295.out) ?_; clear HO_4 HO_6 HO300 HO304 BK289 BK295 HB; intro HO_4 HO_6 HO300 HO304 BK289 BK295 HB BK309 GW309 GE309 NB289_309 NB309_289 NB295_309 NB309_295; clear hb hbox hg) | ((with_reducible refine gate_dst (N := 10) rfl ?_); refine bx_ (N := 10) (cs := #[.int .i64 0, .int .i64 0]) (t := 26) ?_; intro gb310 hg w21 hbox hb; refine cut17_ (Kd.R_below (rR_ HO_4.out) hb) (Kd.R_below (rR_ HO_6.out) hb) (Kd.R_below (rR_ HO300.out) hb) (Kd.R_below (rR_ HO304.out) hb) (bb_ BK289.out hb) (bb_ BK295.out hb) (bb_ BK309.out hb) (below_step (bl3_ HB.out GE289.out GE295.out GE309.out) hb) (hbox) (bz_ (w := w) hg (bl3_ HB.out GE289.out GE295.out GE309.out)) (bz_ (w := w) hg (bl3_ HB.out GE289.out GE295.out GE309.out)) (nl_ hg BK289.out) (ng_ hg BK289.out) (nl_ hg BK295.out) (ng_ hg BK295.out) (nl_ hg BK309.out) (ng_ hg BK309.out) ?_; clear HO_4 HO_6 HO300 HO304 BK289 BK295 BK309 HB; intro HO_4 HO_6 HO300 HO304 BK289 BK295 BK309 HB BK310 GW310 GE310 NB289_310 NB310_289 NB295_310 NB310_295 NB309_310 NB310_309; clear hb hbox hg; have hnb22 := NB309_289.out; have hnc22 := NB289_309.out; have hnb23 := NB309_295.out; have hnc23 := NB295_309.out; have hnb24 := NB309_310.out; have hnc24 := NB310_309.out; obtain ⟨hcz25_0, hcz25_1, hcz25_2, hcz25_3, hcz25_4, hfz25_0, hfz25_1, hfz25_2, hfz25_3, hfz25_4⟩ := cq5_ BK309.out; obtain ⟨Ao26, co26, eo26⟩ := Kd.R_slice HO300.out; subst eo26; obtain ⟨Ao27, co27, eo27⟩ := Kd.R_slice HO304.out; subst eo27) | ((with_reducible refine gate_store (t := 41) (p := 8) rfl ?_); refine st_ (t := 41) (p := 8) (w1 := (((((w21.setCell ⟨gb309, 0, none⟩ (.string t297)).setCell ⟨gb309, 1, none⟩ (.slice Ao26 t298.length co26)).setCell ⟨gb309, 2, none⟩ (.bool t301)).setCell ⟨gb309, 3, none⟩ (.slice Ao27 t302.length co27)).setCell ⟨gb309, 4, none⟩ (.int .i64 t305))) ?_; intro w28 hw; refine cut9_ ((by rw [hw]; exact rR_ (Kd.R_mono (rf5_ gb309 (Kd.R_types HO_4.out BK309.out (by decide))) (fun _ hk => hk.1.2)) : Kd.R k46 46 w28 w.heap.size (fun k_ => some k_ ≠ (.slice Ao26 t298.length co26 : Value).ownBlock) (.slice (some ad296) t290.length co18) t290)) ((by rw [hw]; exact (by (with_reducible repeat (first | apply Kd.R_alloc | apply Kd.R_drewN | apply Kd.R_drew)); exact Kd.R_mono (rf5_ gb309 (Kd.R_mono HO_6.out (fun k_ hk => (⟨hk, hk.2⟩ : _ ∧ k_ ≠ gb309)))) (fun _ hk => ⟨hk.1.1.1.1, ⟨hk.1.1.1.2, ⟨hk.1.1.2, hk.1.2⟩⟩⟩)) : Kd.R k41 41 w28 w.heap.size (fun k_ => some k_ ≠ (.slice (some ad296) t290.length co18 : Value).ownBlock ∧ some k_ ≠ (.slice Ao26 t298.length co26 : Value).ownBlock ∧ some k_ ≠ (.slice Ao27 t302.length co27 : Value).ownBlock ∧ k_ ≠ gb309) u6 x6_1)) ((by rw [hw]; exact rR_ (Kd.R_mono (rf5_ gb309 (Kd.R_types HO300.out BK309.out (by decide))) (fun _ hk => hk.1.2)) : Kd.R k46 46 w28 w.heap.size (fun k_ => some k_ ≠ (.slice (some ad296) t290.length co18 : Value).ownBlock) (.slice Ao26 t298.length co26) t298)) ((by rw [hw]; exact (by (with_reducible repeat (first | apply Kd.R_alloc | apply Kd.R_drewN | apply Kd.R_drew)); exact Kd.R_mono (rf5_ gb309 (Kd.R_mono HO304.out (fun k_ hk => (⟨hk, hk.2⟩ : _ ∧ k_ ≠ gb309)))) (fun _ hk => ⟨hk.1.1.1.2, ⟨hk.1.1.2, ⟨hk.1.1.1.1, hk.1.2⟩⟩⟩)) : Kd.R k41 41 w28 w.heap.size (fun k_ => some k_ ≠ (.slice (some ad296) t290.length co18 : Value).ownBlock ∧ some k_ ≠ (u6 : Value).ownBlock ∧ some k_ ≠ (.slice Ao26 t298.length co26 : Value).ownBlock ∧ k_ ≠ gb309) (.slice Ao27 t302.length co27) t302)) (bw_ hw (far5_ (bk_ BK289.out) NB289_309.out)) (bw_ hw (far5_ (bk_ BK295.out) NB295_309.out)) (bw_ hw (put5_ (bk_ BK309.out))) (bw_ hw (far5_ (bk_ BK310.out) NB310_309.out)) (bW_ hw (bl4_ HB.out GE289.out GE295.out GE309.out GE310.out)) ?_; clear hw HO_4 HO_6 HO300 HO304 BK289 BK295 BK309 BK310 HB; intro HO_4 HO_6 HO300 HO304 BK289 BK295 BK309 BK310 HB; have hnb29 := NB310_289.out; have hnc29 := NB289_310.out; have hnb30 := NB310_295.out; have hnc30 := NB295_310.out; obtain ⟨hcz31_0, hcz31_1, hfz31_0, hfz31_1⟩ := cq2_ BK310.out) | ((with_reducible refine gate_store (t := 26) (p := 10) rfl ?_); refine st_ (t := 26) (p := 10) (w1 := ((w28.setCell ⟨gb310, 0, none⟩ (.int .i64 t307)).setCell ⟨gb310, 1, none⟩ (.int .i64 t308))) ?_; intro w32 hw; refine cut9_ ((by rw [hw]; exact rR_ (Kd.R_mono (rf2_ gb310 (Kd.R_types HO_4.out BK310.out (by decide))) (fun _ hk => hk.1)) : Kd.R k46 46 w32 w.heap.size (fun k_ => some k_ ≠ (.slice Ao26 t298.length co26 : Value).ownBlock) (.slice (some ad296) t290.length co18) t290)) ((by rw [hw]; exact (by (with_reducible repeat (first | apply Kd.R_alloc | apply Kd.R_drewN | apply Kd.R_drew)); exact Kd.R_mono (rf2_ gb310 (Kd.R_types HO_6.out BK310.out (by decide))) (fun _ hk => ⟨hk.1.1, ⟨hk.1.2.1, ⟨hk.1.2.2.1, hk.1.2.2.2⟩⟩⟩)) : Kd.R k41 41 w32 w.heap.size (fun k_ => some k_ ≠ (.slice (some ad296) t290.length co18 : Value).ownBlock ∧ some k_ ≠ (.slice Ao26 t298.length co26 : Value).ownBlock ∧ some k_ ≠ (.slice Ao27 t302.length co27 : Value).ownBlock ∧ k_ ≠ gb309) u6 x6_1)) ((by rw [hw]; exact rR_ (Kd.R_mono (rf2_ gb310 (Kd.R_types HO300.out BK310.out (by decide))) (fun _ hk => hk.1)) : Kd.R k46 46 w32 w.heap.size (fun k_ => some k_ ≠ (.slice (some ad296) t290.length co18 : Value).ownBlock) (.slice Ao26 t298.length co26) t298)) ((by rw [hw]; exact (by (with_reducible repeat (first | apply Kd.R_alloc | apply Kd.R_drewN | apply Kd.R_drew)); exact Kd.R_mono (rf2_ gb310 (Kd.R_types HO304.out BK310.out (by decide))) (fun _ hk => ⟨hk.1.1, ⟨hk.1.2.1, ⟨hk.1.2.2.1, hk.1.2.2.2⟩⟩⟩)) : Kd.R k41 41 w32 w.heap.size (fun k_ => some k_ ≠ (.slice (some ad296) t290.length co18 : Value).ownBlock ∧ some k_ ≠ (u6 : Value).ownBlock ∧ some k_ ≠ (.slice Ao26 t298.length co26 : Value).ownBlock ∧ k_ ≠ gb309) (.slice Ao27 t302.length co27) t302)) (bw_ hw (far2_ (bk_ BK289.out) NB289_310.out)) (bw_ hw (far2_ (bk_ BK295.out) NB295_310.out)) (bw_ hw (far2_ (bk_ BK309.out) NB309_310.out)) (bw_ hw (put2_ (bk_ BK310.out))) (bW_ hw (bl4_ HB.out GE289.out GE295.out GE309.out GE310.out)) ?_; clear hw HO_4 HO_6 HO300 HO304 BK289 BK295 BK309 BK310 HB; intro HO_4 HO_6 HO300 HO304 BK289 BK295 BK309 BK310 HB; obtain ⟨hcz33_0, hcz33_1, hfz33_0, hfz33_1⟩ := cq2_ BK310.out; obtain ⟨hcz34_0, hcz34_1, hcz34_2, hcz34_3, hcz34_4, hfz34_0, hfz34_1, hfz34_2, hfz34_3, hfz34_4⟩ := cq5_ BK309.out) | ((with_reducible refine gate_builtin (b := .append) (xs := #[.tmp 37, .tmp 39]) rfl ?_); at_builtin; refine Kd.R_append k41 (w0 := w) w.heap.size rfl (.tmp 37) (.tmp 39) 23 41 (.agg #[(.string ⟨#[]⟩), (.slice none 0 0), (.bool false), (.slice none 0 0), (.int .i64 0)]) 80 rfl Tryd.underlying23 info41 rfl (by decide) (by omega) u6 x6_1 (⟨t297, t298, t301, t302, t305⟩ : S41) [.string t297, .slice Ao26 t298.length co26, .bool t301, .slice Ao27 t302.length co27, .int .i64 t305] (fun k_ => some k_ ≠ (.slice (some ad296) t290.length co18 : Value).ownBlock ∧ k_ ≠ gb309) (fun k_ => ((fun k_ => some k_ ≠ (.slice (some ad296) t290.length co18 : Value).ownBlock ∧ k_ ≠ gb309)) k_ ∧ some k_ ≠ (u6 : Value).ownBlock) rfl rfl ?aP (fun _ hk => hk) ?aF ?aO ?aB ?aS ?aL ?_; (case aP => exact k41_mkM _ _ _ (⟨t297, t298, t301, t302, t305⟩ : S41) (Kd.R_mono (Kd.R_types (Kd.R_apart' (HO300.out) (Kd.R_typed HO_6.out) (by decide)) BK309.out (by decide)) (fun k_ hk => ⟨⟨hk.1.1, hk.2⟩, hk.1.2⟩)) (Kd.R_mono (HO304.out) (fun k_ hk => ⟨⟨hk.1, hk.2.2.2⟩, hk.2.1⟩))); (case aB => exact (bl4_ HB.out GE289.out GE295.out GE309.out GE310.out)); (case aF => exact (fun k_ hk => ⟨Kd.fresh' (Kd.R_lt (rR_ HO_4.out)) k_ hk, Kd.freshB (g := gb309) (o := .cells #[.string t297, .slice Ao26 t298.length co26, .bool t301, .slice Ao27 t302.length co27, .int .i64 t305] 41 (0, 0)) (bk_ BK309.out) k_ hk⟩)); (case aO => exact (by (with_reducible repeat (first | apply Kd.R_alloc | apply Kd.R_drewN | apply Kd.R_drew)); exact Kd.R_mono HO_6.out (fun _ hk => ⟨hk.1, hk.2.2.2⟩))); (case aS => exact (below_size (bl4_ HB.out GE289.out GE295.out GE309.out GE310.out))); (case aL => have := LMc17.out; omega); intro v312 w35 ho hb hg hat; rw [← Ny311.out] at ho; refine cut7_ (Kd.R_over' (rR_ HO_4.out) (Kd.R_typed (rR_ HO_6.out)) (by decide) hg) (blk_grown (g := gb289) (o := .cells #[.int .i64 x290000_1, .int .i64 x290001_1] 26 (0, 0)) (bk_ BK289.out) hg (Kd.R_ne HO_6.out BK289.out (by decide))) (blk_grown (g := gb295) (o := .cells #[.int .i64 t293, .int .i64 t294] 26 (0, 0)) (bk_ BK295.out) hg (Kd.R_ne HO_6.out BK295.out (by decide))) (blk_grown (g := gb309) (o := .cells #[.string t297, .slice Ao26 t298.length co26, .bool t301, .slice Ao27 t302.length co27, .int .i64 t305] 41 (0, 0)) (bk_ BK309.out) hg (Kd.R_away HO_6.out (fun _ hk => hk.2.2.2))) (blk_grown (g := gb310) (o := .cells #[.int .i64 t307, .int .i64 t308] 26 (0, 0)) (bk_ BK310.out) hg (Kd.R_ne HO_6.out BK310.out (by decide))) (hb) (ho) ?_; clear HO_4 BK289 BK295 BK309 BK310 HB HO_6 HO300 HO304; intro HO_4 BK289 BK295 BK309 BK310 HB HO313; clear ho hb hg hat))
  go_roundg k1
  case measure => have := HK1.out; omega
  case rel => exact ⟨(y311), (t306), (x290000_1), (x290001_1), sr_, H', ⟨om_ HK1.out⟩, ⟨rR_ (Kd.R_mono HO_4.out (fun _ hk => trivial))⟩, ⟨rR_ (Kd.R_mono HO313.out (fun _ hk => hk.1))⟩, ⟨bk_ BK289.out⟩, ⟨bk_ BK295.out⟩, ⟨bl4_ HB.out GE289.out GE295.out GE309.out GE310.out⟩⟩
end Go.Proofs.YtkifdadhojbohaaDoor.Pr
namespace Go.Proofs.YtkifdadhojbohaaDoor.Pu
open Go.RowKit Go.Proofs.YtkifdadhojbohaaDoor Go.Proofs.YtkifdadhojbohaaDoor.Pr Go.Proofs.YtkifdadhojbohaaDoorW.PrintWords Go.Proofs.YtkifdadhojbohaaDoorW.PrintLast Go.Proofs.YtkifdadhojbohaaDoorW.PrintMore
theorem rsign10_f (t : S46) (c : UInt8) : salchowref10_sign.f t.f0 t.f1 t.f2 t.f3 (⟨#[c]⟩ : ByteArray) = some (isS t c) := by
  unfold salchowref10_sign.f isS
  rw [toList_lst, toList_lst]
  by_cases h : t.f0 = 4
  · rw [if_pos h, h]; rfl
  · rw [if_neg h]; simp [h]
theorem ratom10_f (t : S46) : salchowref10_atom.f t.f0 t.f1 t.f2 t.f3 = some (isA t) := by
  unfold salchowref10_atom.f isA
  rw [rsign10_f, rsign10_f, rsign10_f]
  by_cases h : t.f0 = 5
  · rw [if_pos h]; simp [h]
  · rw [if_neg h]
    cases h1 : isS t 59 <;> cases h2 : isS t 123 <;> cases h3 : isS t 125 <;> simp [h]
abbrev EY := ByteArray × List S46 × Bool × List S41 × Int × Int × Int × Int
abbrev EY.c (b : EY) : S41 := ⟨b.1, b.2.1, b.2.2.1, b.2.2.2.1, b.2.2.2.2.1⟩
theorem rdrop_app {T : List S46} {i : Nat} {ats r : List S46} (h : T.drop i = ats ++ r) : T.drop (i + ats.length) = r := by
  rw [← List.drop_drop, h, List.drop_left]
theorem rint_lt {a b : Nat} (h : a < b) : (a : Int) < (b : Int) := by omega
theorem rentry_atoms (L : List S46) (hL : L.length ≤ 900000) (o : Int) (w : ByteArray) (at_ : Int) (y : EY) :
    ∀ (ats : List S46) (j : Nat) (acc : List S46) (u : S46) (r : List S46), L.drop j = ats ++ u :: r → (∀ a ∈ ats, isA a = true) → acc.length ≤ j →
      Ev (fun k => salchowref10_entry.l0 k L ((j + ats.length : Nat) : Int) o w (acc ++ ats) false at_) y → Ev (fun k => salchowref10_entry.l0 k L (j : Int) o w acc false at_) y := by
  intro ats
  induction ats with
  | nil => intro j acc u r h1 h2 h3 h; simpa using h
  | cons a ats ih =>
    intro j acc u r h1 h2 h3 h
    obtain ⟨g1, g2, g3⟩ := rd_at h1
    refine Ev.succ ?_
    simp only [salchowref10_entry.l0, g2, ratom10_f, h2 a (by simp)]
    refine Ev.ifp natO (Ev.ifp (rint_lt g1) (Ev.val rfl (Ev.ifp rfl (Ev.ifp (by omega) ?_))))
    rw [wrap_nat j (by omega)]
    refine ih (j + 1) (acc ++ [a]) u r g3 (fun x hx => h2 x (by simp [hx])) (by simp; omega) ?_
    have e1 : j + 1 + ats.length = j + (a :: ats).length := by simp; omega
    have e2 : acc ++ [a] ++ ats = acc ++ a :: ats := by simp
    rw [e1, e2]
    exact h
theorem rentry_head (L : List S46) (hL : L.length ≤ 900000) (o : Int) (i : Nat) (t : S46) (ats : List S46) (u : S46) (r : List S46) (h1 : L.drop i = t :: (ats ++ u :: r)) (ht : t.f0 = 1) (h2 : ∀ a ∈ ats, isA a = true) (y : EY)
    (h : Ev (fun k => salchowref10_entry.l0 k L ((i + 1 + ats.length : Nat) : Int) o t.f1 ats false t.f3) y) : Ev (fun k => salchowref10_entry.f k L (i : Int) o) y := by
  obtain ⟨g1, g2, g3⟩ := rd_at h1
  refine Ev.succ ?_
  simp only [salchowref10_entry.f, g2]
  refine Ev.ifp natO (Ev.ifp (rint_lt g1) (Ev.ifp ht ?_))
  rw [wrap_nat i (by omega)]
  refine rentry_atoms L hL o t.f1 t.f3 y ats (i + 1) [] u r g3 h2 (by simp) ?_
  simpa using h
theorem rentry_no (L : List S46) (o : Int) (i : Nat) (t : S46) (r : List S46) (h1 : L.drop i = t :: r) (ht : t.f0 ≠ 1) : Ev (fun k => salchowref10_entry.f k L (i : Int) o) (t.f1, [], false, [], t.f3, (i : Int), 2, t.f3) := by
  obtain ⟨g1, g2, g3⟩ := rd_at h1
  refine Ev.succ ?_
  simp only [salchowref10_entry.f, g2]
  exact Ev.ifp natO (Ev.ifp (rint_lt g1) (Ev.ifn ht (Ev.now _)))
theorem rentry_semi (L : List S46) (hL : L.length ≤ 900000) (o : Int) (i : Nat) (t : S46) (ats : List S46) (u : S46) (r : List S46) (h1 : L.drop i = t :: (ats ++ u :: r)) (ht : t.f0 = 1) (h2 : ∀ a ∈ ats, isA a = true) (h3 : isS u 59 = true) :
    Ev (fun k => salchowref10_entry.f k L (i : Int) o) (t.f1, ats, false, [], t.f3, ((i + ats.length + 2 : Nat) : Int), 0, 0) := by
  refine rentry_head L hL o i t ats u r h1 ht h2 _ ?_
  obtain ⟨g1, g2, g3⟩ := rd_at (rdrop_app (rd_at h1).2.2)
  refine Ev.succ ?_
  simp only [salchowref10_entry.l0, g2, ratom10_f, rsign10_f, isA_of_isS h3 (.inl rfl), h3]
  refine Ev.ifp natO (Ev.ifp (rint_lt g1) (Ev.val rfl (Ev.ifn (by simp) (Ev.val rfl (Ev.ifp rfl (Ev.ret ?_))))))
  rw [wrap_nat _ (by omega)]
  have e : i + 1 + ats.length + 1 = i + ats.length + 2 := by omega
  rw [e]
theorem rentry_lim (L : List S46) (hL : L.length ≤ 900000) (i : Nat) (t : S46) (ats : List S46) (u : S46) (r : List S46) (h1 : L.drop i = t :: (ats ++ u :: r)) (ht : t.f0 = 1) (h2 : ∀ a ∈ ats, isA a = true) (h3 : isS u 123 = true) :
    Ev (fun k => salchowref10_entry.f k L (i : Int) ((8 : Nat) : Int)) (t.f1, ats, false, [], t.f3, ((i + 1 + ats.length : Nat) : Int), 6, u.f3) := by
  refine rentry_head L hL _ i t ats u r h1 ht h2 _ ?_
  obtain ⟨g1, g2, g3⟩ := rd_at (rdrop_app (rd_at h1).2.2)
  refine Ev.succ ?_
  simp only [salchowref10_entry.l0, g2, ratom10_f, rsign10_f, isA_of_isS h3 (.inr (.inl rfl)), h3, isS_ne h3 (show (123 : UInt8) ≠ 59 by decide)]
  exact Ev.ifp natO (Ev.ifp (rint_lt g1) (Ev.val rfl (Ev.ifn (by simp) (Ev.val rfl (Ev.ifn (by simp) (Ev.val rfl (Ev.ifp rfl (Ev.ifp rfl (Ev.now _)))))))))
theorem rentry_syn (L : List S46) (hL : L.length ≤ 900000) (o : Int) (i : Nat) (t : S46) (ats : List S46) (u : S46) (r : List S46) (h1 : L.drop i = t :: (ats ++ u :: r)) (ht : t.f0 = 1) (h2 : ∀ a ∈ ats, isA a = true) (hA : isA u = false) (h3 : isS u 59 = false) (h4 : isS u 123 = false) :
    Ev (fun k => salchowref10_entry.f k L (i : Int) o) (t.f1, ats, false, [], t.f3, ((i + 1 + ats.length : Nat) : Int), 2, u.f3) := by
  refine rentry_head L hL o i t ats u r h1 ht h2 _ ?_
  obtain ⟨g1, g2, g3⟩ := rd_at (rdrop_app (rd_at h1).2.2)
  refine Ev.succ ?_
  simp only [salchowref10_entry.l0, g2, ratom10_f, rsign10_f, hA, h3, h4]
  exact Ev.ifp natO (Ev.ifp (rint_lt g1) (Ev.val rfl (Ev.ifn (by simp) (Ev.val rfl (Ev.ifn (by simp) (Ev.val rfl (Ev.ifn (by simp) (Ev.now _))))))))
theorem rentry_blk (L : List S46) (hL : L.length ≤ 900000) (o : Nat) (ho : o < 8) (i : Nat) (t : S46) (ats : List S46) (u : S46) (r : List S46) (h1 : L.drop i = t :: (ats ++ u :: r)) (ht : t.f0 = 1) (h2 : ∀ a ∈ ats, isA a = true) (h3 : isS u 123 = true) (y : EY)
    (hy : Ev (fun k => salchowref10_entry.l1 k L ((i + ats.length + 2 : Nat) : Int) (o : Int) t.f1 ats true [] t.f3) y) : Ev (fun k => salchowref10_entry.f k L (i : Int) (o : Int)) y := by
  refine rentry_head L hL _ i t ats u r h1 ht h2 _ ?_
  obtain ⟨g1, g2, g3⟩ := rd_at (rdrop_app (rd_at h1).2.2)
  refine Ev.succ ?_
  simp only [salchowref10_entry.l0, g2, ratom10_f, rsign10_f, isA_of_isS h3 (.inr (.inl rfl)), h3, isS_ne h3 (show (123 : UInt8) ≠ 59 by decide)]
  refine Ev.ifp natO (Ev.ifp (rint_lt g1) (Ev.val rfl (Ev.ifn (by simp) (Ev.val rfl (Ev.ifn (by simp) (Ev.val rfl (Ev.ifp rfl (Ev.ifn (by omega) ?_))))))))
  rw [wrap_nat _ (by omega)]
  have e : i + 1 + ats.length + 1 = i + ats.length + 2 := by omega
  rw [e]
  exact hy
theorem rl1_step (L : List S46) (o i : Nat) (ho : o ≤ 100) (w : ByteArray) (ats : List S46) (acc : List S41) (at_ : Int) (t : S46) (r : List S46) (h1 : L.drop i = t :: r) (hs : isS t 125 = false) (ha : acc.length ≤ 1000000)
    (b : EY) (hb : Ev (fun k => salchowref10_entry.f k L (i : Int) ((o + 1 : Nat) : Int)) b) (hc : b.2.2.2.2.2.2.1 = 0) (y : EY)
    (h : Ev (fun k => salchowref10_entry.l1 k L b.2.2.2.2.2.1 (o : Int) w ats true (acc ++ [b.c]) at_) y) : Ev (fun k => salchowref10_entry.l1 k L (i : Int) (o : Int) w ats true acc at_) y := by
  obtain ⟨g1, g2, g3⟩ := rd_at h1
  refine Ev.succ ?_
  simp only [salchowref10_entry.l1, g2, rsign10_f, hs]
  refine Ev.ifp natO (Ev.ifp (rint_lt g1) (Ev.val rfl (Ev.ifn (by simp) ?_)))
  rw [wrap_nat o (by omega)]
  exact Ev.bind hb (Ev.ifp hc (Ev.ifp (by omega) h))
theorem rl1_err (L : List S46) (o i : Nat) (ho : o ≤ 100) (w : ByteArray) (ats : List S46) (acc : List S41) (at_ : Int) (t : S46) (r : List S46) (h1 : L.drop i = t :: r) (hs : isS t 125 = false)
    (b : EY) (hb : Ev (fun k => salchowref10_entry.f k L (i : Int) ((o + 1 : Nat) : Int)) b) (hc : b.2.2.2.2.2.2.1 ≠ 0) : Ev (fun k => salchowref10_entry.l1 k L (i : Int) (o : Int) w ats true acc at_) (w, ats, true, acc, at_, (i : Int), b.2.2.2.2.2.2.1, b.2.2.2.2.2.2.2) := by
  obtain ⟨g1, g2, g3⟩ := rd_at h1
  refine Ev.succ ?_
  simp only [salchowref10_entry.l1, g2, rsign10_f, hs]
  refine Ev.ifp natO (Ev.ifp (rint_lt g1) (Ev.val rfl (Ev.ifn (by simp) ?_)))
  rw [wrap_nat o (by omega)]
  exact Ev.bind hb (Ev.ifn hc (Ev.now _))
theorem rl1_stop (L : List S46) (o i : Nat) (hi : i ≤ 1000000) (w : ByteArray) (ats : List S46) (acc : List S41) (at_ : Int) (t : S46) (r : List S46) (h1 : L.drop i = t :: r) (hs : isS t 125 = true) :
    Ev (fun k => salchowref10_entry.l1 k L (i : Int) (o : Int) w ats true acc at_) (w, ats, true, acc, at_, ((i + 1 : Nat) : Int), 0, 0) := by
  obtain ⟨g1, g2, g3⟩ := rd_at h1
  refine Ev.succ ?_
  simp only [salchowref10_entry.l1, g2, rsign10_f, hs]
  rw [wrap_nat i hi]
  exact Ev.ifp natO (Ev.ifp (rint_lt g1) (Ev.val rfl (Ev.ifp rfl (Ev.now _))))
theorem rp_step (L : List S46) (i : Nat) (acc : List S41) (t : S46) (r : List S46) (h1 : L.drop i = t :: r) (hs : t.f0 ≠ 5) (ha : acc.length ≤ 1000000)
    (b : EY) (hb : Ev (fun k => salchowref10_entry.f k L (i : Int) 0) b) (hc : b.2.2.2.2.2.2.1 = 0) (y : List S41 × Int × Int)
    (h : Ev (fun k => salchowref10_Parse.l0 k L (acc ++ [b.c]) b.2.2.2.2.2.1) y) : Ev (fun k => salchowref10_Parse.l0 k L acc (i : Int)) y := by
  obtain ⟨g1, g2, g3⟩ := rd_at h1
  refine Ev.succ ?_
  simp only [salchowref10_Parse.l0, g2]
  exact Ev.ifp natO (Ev.ifp (rint_lt g1) (Ev.ifn hs (Ev.bind hb (Ev.ifp hc (Ev.ifp (by omega) h)))))
theorem rp_err (L : List S46) (i : Nat) (acc : List S41) (t : S46) (r : List S46) (h1 : L.drop i = t :: r) (hs : t.f0 ≠ 5)
    (b : EY) (hb : Ev (fun k => salchowref10_entry.f k L (i : Int) 0) b) (hc : b.2.2.2.2.2.2.1 ≠ 0) : Ev (fun k => salchowref10_Parse.l0 k L acc (i : Int)) ([], b.2.2.2.2.2.2.1, b.2.2.2.2.2.2.2) := by
  obtain ⟨g1, g2, g3⟩ := rd_at h1
  refine Ev.succ ?_
  simp only [salchowref10_Parse.l0, g2]
  exact Ev.ifp natO (Ev.ifp (rint_lt g1) (Ev.ifn hs (Ev.bind hb (Ev.ifn hc (Ev.now _)))))
theorem rp_stop (L : List S46) (i : Nat) (acc : List S41) (t : S46) (r : List S46) (h1 : L.drop i = t :: r) (hs : t.f0 = 5) : Ev (fun k => salchowref10_Parse.l0 k L acc (i : Int)) (acc, 0, 0) := by
  obtain ⟨g1, g2, g3⟩ := rd_at h1
  refine Ev.succ ?_
  simp only [salchowref10_Parse.l0, g2]
  exact Ev.ifp natO (Ev.ifp (rint_lt g1) (Ev.ifp hs (Ev.now _)))
def goodB (n : Nat) (w : ByteArray) (ats : List S46) (acc : List S41) (at_ : Int) (y : EY) : Ans → Prop
  | .ok p => y = (w, ats, true, acc ++ p.1, at_, ((n - p.2.length + 1 : Nat) : Int), 0, 0)
  | .error e => y.2.2.2.2.2.2 = e
def ansP (acc : List S41) : Ans → List S41 × Int × Int
  | .ok p => (acc ++ p.1, 0, 0)
  | .error e => ([], e.1, e.2)
def GoalR (L : List S46) (o i : Nat) (acc : List S41) (x : Ans) : Prop :=
  (∀ o', o = o' + 1 → ∀ w ats at_, ∃ y, Ev (fun k => salchowref10_entry.l1 k L (i : Int) (o' : Int) w ats true acc at_) y ∧ goodB L.length w ats acc at_ y x) ∧ (o = 0 → Ev (fun k => salchowref10_Parse.l0 k L acc (i : Int)) (ansP acc x))
theorem notstop {o : Nat} {t : S46} (h : t.f0 = 1) : stopT o t = false := by
  unfold stopT isS
  split <;> simp [h]
theorem goal_step (L : List S46) (o i j : Nat) (ho : o ≤ 8) (acc : List S41) (t : S46) (r : List S46) (h1 : L.drop i = t :: r) (hs : stopT o t = false) (ha : acc.length ≤ 1000000) (b : EY) (hb : Ev (fun k => salchowref10_entry.f k L (i : Int) (o : Int)) b)
    (hc : b.2.2.2.2.2.2.1 = 0) (hj : b.2.2.2.2.2.1 = (j : Int)) (x : Ans) (h : GoalR L o j (acc ++ [b.c]) x) : GoalR L o i acc (push b.c x) := by
  refine ⟨?_, ?_⟩
  · intro o' e w ats at_
    subst e
    obtain ⟨y, g1, g2⟩ := h.1 o' rfl w ats at_
    rw [← hj] at g1
    refine ⟨y, rl1_step L o' i (by omega) w ats acc at_ t r h1 (by simpa [stopT] using hs) ha b hb hc y g1, ?_⟩
    cases x with
    | error e => exact g2
    | ok p => simpa [goodB, push] using g2
  · intro e
    subst e
    have g1 := h.2 rfl
    rw [← hj] at g1
    have := rp_step L i acc t r h1 (by simpa [stopT] using hs) ha b hb hc _ g1
    cases x with
    | error e => exact this
    | ok p => simpa [ansP, push] using this
theorem goal_err (L : List S46) (o i : Nat) (ho : o ≤ 8) (acc : List S41) (t : S46) (r : List S46) (h1 : L.drop i = t :: r) (hs : stopT o t = false) (b : EY) (hb : Ev (fun k => salchowref10_entry.f k L (i : Int) (o : Int)) b)
    (e : Int × Int) (hc : b.2.2.2.2.2.2 = e) (h0 : e.1 ≠ 0) : GoalR L o i acc (.error e) := by
  have hc' : b.2.2.2.2.2.2.1 ≠ 0 := by rw [hc]; exact h0
  refine ⟨?_, ?_⟩
  · intro o' eo w ats at_
    subst eo
    exact ⟨_, rl1_err L o' i (by omega) w ats acc at_ t r h1 (by simpa [stopT] using hs) b hb hc', hc⟩
  · intro eo
    subst eo
    have := rp_err L i acc t r h1 (by simpa [stopT] using hs) b hb hc'
    rw [hc] at this
    exact this
theorem run_ref (L : List S46) (hL : L.length ≤ 900000) {o : Nat} {ts : List S46} {x : Ans} (h : RL o ts x) :
    ∀ (i : Nat) (acc : List S41), o ≤ 8 → L.drop i = ts → acc.length ≤ i → GoalR L o i acc x := by
  have hlen : ∀ (i : Nat) (q : List S46), L.drop i = q → q ≠ [] → L.length - q.length = i ∧ i ≤ L.length := by
    intro i q hq hne
    have := congrArg List.length hq
    rw [List.length_drop] at this
    have := List.length_pos_iff.2 hne
    omega
  induction h with
  | stop o t r h1 h2 =>
    intro i acc _ hi _
    have hj := hlen i _ hi (by simp)
    refine ⟨?_, ?_⟩
    · intro o' e w ats at_
      subst e
      refine ⟨_, rl1_stop L o' i (by omega) w ats acc at_ t r hi (by simpa [stopT] using h2), ?_⟩
      simp only [goodB, List.append_nil]
      rw [hj.1]
    · intro e
      subst e
      simpa [ansP] using rp_stop L i acc t r hi (by simpa [stopT] using h2)
  | bad o t r h1 h2 =>
    intro i acc ho hi _
    exact goal_err L o i ho acc t r hi h2 _ (rentry_no L o i t r hi h1) _ rfl (by simp)
  | semi o t ats u r x h1 h2 h3 hr ih =>
    intro i acc ho hi ha
    have hr' := (rd_at (rdrop_app (rd_at hi).2.2)).2.2
    have e : i + 1 + ats.length + 1 = i + ats.length + 2 := by omega
    rw [e] at hr'
    have hj := hlen i _ hi (by simp)
    exact goal_step L o i (i + ats.length + 2) ho acc t _ hi (notstop h1) (by omega) _ (rentry_semi L hL o i t ats u r hi h1 h2 h3) rfl rfl x (ih _ _ ho hr' (by simp; omega))
  | syn o t ats u r h1 h2 hA h3 h4 =>
    intro i acc ho hi ha
    exact goal_err L o i ho acc t _ hi (notstop h1) _ (rentry_syn L hL o i t ats u r hi h1 h2 hA h3 h4) _ rfl (by simp)
  | lim t ats u r h1 h2 h3 =>
    intro i acc ho hi ha
    exact goal_err L 8 i ho acc t _ hi (notstop h1) _ (rentry_lim L hL i t ats u r hi h1 h2 h3) _ rfl (by simp)
  | blk o t ats u r ks b q x ho h1 h2 h3 hk hr ihk ih =>
    intro i acc ho' hi ha
    have hr' := (rd_at (rdrop_app (rd_at hi).2.2)).2.2
    have e : i + 1 + ats.length + 1 = i + ats.length + 2 := by omega
    rw [e] at hr'
    obtain ⟨yk, k1, k2⟩ := (ihk (i + ats.length + 2) [] (by omega) hr' (by simp)).1 o rfl t.f1 ats t.f3
    obtain ⟨b', q0, pk, f1, f2, f3, f4, f5⟩ := hk.frame _ _ rfl
    have hq : L.drop (i + ats.length + 2 + pk.length) = b :: q := rdrop_app (by rw [hr', f4])
    have hq2 := (rd_at hq).2.2
    have hj := hlen _ _ hq (by simp)
    have hj0 := hlen i _ hi (by simp)
    simp only [goodB, List.nil_append] at k2
    rw [hj.1] at k2
    subst k2
    exact goal_step L o i (i + ats.length + 2 + pk.length + 1) ho' acc t _ hi (notstop h1) (by omega) _ (rentry_blk L hL o ho i t ats u r hi h1 h2 h3 _ k1) rfl rfl x (ih _ _ ho' hq2 (by simp; omega))
  | blkF o t ats u r e ho h1 h2 h3 hk ihk =>
    intro i acc ho' hi ha
    have hr' := (rd_at (rdrop_app (rd_at hi).2.2)).2.2
    have e' : i + 1 + ats.length + 1 = i + ats.length + 2 := by omega
    rw [e'] at hr'
    obtain ⟨yk, k1, k2⟩ := (ihk (i + ats.length + 2) [] (by omega) hr' (by simp)).1 o rfl t.f1 ats t.f3
    have hc := hk.code _ rfl
    exact goal_err L o i ho' acc t _ hi (notstop h1) _ (rentry_blk L hL o ho i t ats u r hi h1 h2 h3 _ k1) e k2 (by omega)
theorem rparse_f (L : List S46) (hL : L.length ≤ 900000) {x : Ans} (h : RL 0 L x) : Ev (fun k => salchowref10_Parse.l0 k L [] 0) (ansP [] x) := (run_ref L hL h 0 [] (by omega) rfl (by simp)).2 rfl
end Go.Proofs.YtkifdadhojbohaaDoor.Pu
namespace Go.Proofs.YtkifdadhojbohaaDoor.Pu
open Go.RowKit Go.Proofs.YtkifdadhojbohaaDoor Go.Proofs.YtkifdadhojbohaaDoor.Pr Go.Proofs.YtkifdadhojbohaaDoorW.PrintWords Go.Proofs.YtkifdadhojbohaaDoorW.PrintLast
theorem rskip_j1t (s : ByteArray) (i : Nat) (r : Int) (hi : i ≤ 1000000) (h : Ev (fun k => salchowref09_skip.l0 k s ((i + 1 : Nat) : Int)) r) : Ev (fun k => salchowref09_skip.j1 k s i true) r := by
  refine Ev.succ ?_
  simp only [salchowref09_skip.j1]
  rw [wrap_nat i hi]
  exact Ev.ifp (by simp) h
theorem rskip_prog (s : ByteArray) (hs : s.size ≤ 1000000) : ∀ (d : Nat) (i : Nat) (l : List UInt8), i ≤ s.size → s.size - i = d → (lst s).drop i = l →
    Ev (fun k => salchowref09_skip.l0 k s i) (s.size - (skipL false l).length) ∧ Ev (fun k => salchowref09_skip.l1 k s i) (s.size - (skipL true l).length) := by
  intro d
  induction d with
  | zero =>
    intro i l hi hd hl
    obtain rfl : i = s.size := by omega
    obtain rfl : l = [] := by rw [← hl]; exact List.drop_eq_nil_of_le (by rw [lst_length]; omega)
    have h0 : Ev (fun k => salchowref09_skip.l0 k s (s.size : Int)) (s.size - (skipL false []).length) := by
      refine Ev.succ ?_
      simp only [salchowref09_skip.l0]
      refine Ev.ifn (by omega) (Ev.ret (by simp [skipL]))
    refine ⟨h0, ?_⟩
    refine Ev.succ ?_
    simp only [salchowref09_skip.l1]
    exact Ev.ifn (by omega) h0
  | succ d ih =>
    intro i l hi hd hl
    cases l with
    | nil => exact absurd (at_nil hi hl) (by omega)
    | cons c l =>
      obtain ⟨h1, h2, h3⟩ := at_cons hl
      obtain ⟨ihf, iht⟩ := ih (i + 1) l (by omega) (by omega) h3
      have hk := kind1 c.toNat
      have hb : kindOf c.toNat = 1 → Ev (fun k => salchowref09_skip.l0 k s i) (s.size - (skipL false l).length) := by
        intro hb
        have hj := rskip_j1t s i _ (by omega) ihf
        refine Ev.succ ?_
        simp only [salchowref09_skip.l0]
        rw [h2]
        refine Ev.ifp (by omega) (Ev.ifp (by omega) ?_)
        by_cases a : c.toNat = 32
        · exact Ev.ifp (by omega) hj
        · refine Ev.ifn (by omega) ?_
          by_cases b : c.toNat = 9
          · exact Ev.ifp (by omega) hj
          · refine Ev.ifn (by omega) ?_
            by_cases e : c.toNat = 10
            · exact Ev.ifp (by omega) hj
            · refine Ev.ifn (by omega) ?_
              have : ((c.toNat : Int) == 13) = true := by rw [beq_iff_eq]; omega
              rw [this]; exact hj
      have ht : Ev (fun k => salchowref09_skip.l1 k s i) (s.size - (skipL true (c :: l)).length) := by
        refine Ev.succ ?_
        simp only [salchowref09_skip.l1]
        rw [h2]
        refine Ev.ifp (by omega) (Ev.ifp (by omega) ?_)
        unfold skipL
        by_cases h10 : c.toNat = 10
        · rw [if_pos h10]
          exact Ev.ifp (by omega) (hb (by omega))
        · rw [if_neg h10, wrap_nat i (by omega)]
          exact Ev.ifn (by omega) iht
      refine ⟨?_, ht⟩
      by_cases hb1 : kindOf c.toNat = 1
      · unfold skipL
        rw [if_neg (by omega), if_pos hb1]
        exact hb hb1
      · refine Ev.succ ?_
        simp only [salchowref09_skip.l0]
        rw [h2]
        refine Ev.ifp (by omega) (Ev.ifp (by omega) (Ev.ifn (by omega) (Ev.ifn (by omega) (Ev.ifn (by omega) ?_))))
        have : ((c.toNat : Int) == 13) = false := by rw [beq_eq_false_iff_ne]; omega
        rw [this]
        refine Ev.succ ?_
        simp only [salchowref09_skip.j1]
        rw [h2]
        refine Ev.ifn (by simp) (Ev.ifp (by omega) (Ev.ifp (by omega) ?_))
        by_cases h35 : c.toNat = 35
        · refine Ev.ifp (by omega) ?_
          have e : skipL false (c :: l) = skipL true (c :: l) := by
            unfold skipL; rw [if_pos h35, if_neg (by omega)]
          rw [e]; exact ht
        · refine Ev.ifn (by omega) (Ev.ret ?_)
          have e : skipL false (c :: l) = c :: l := by
            unfold skipL; rw [if_neg h35, if_neg hb1]
          rw [e, ← hl, List.length_drop, lst_length]; omega
theorem rskip_f (s : ByteArray) (hs : s.size ≤ 1000000) (i : Nat) (hi : i ≤ s.size) : Ev (fun k => salchowref09_skip.f k s i) (s.size - (skipL false ((lst s).drop i)).length) := (rskip_prog s hs _ i _ hi rfl rfl).1
theorem rletter_f (c : UInt8) : salchowref09_letter.f (c.toNat : Int) = some (isLet c) := by
  unfold salchowref09_letter.f
  have hk := kind2 c.toNat
  have : isLet c = decide (97 ≤ c.toNat ∧ c.toNat ≤ 122 ∨ 65 ≤ c.toNat ∧ c.toNat ≤ 90) := by
    rw [Bool.eq_iff_iff]; simp only [isLet, Bool.and_eq_true, beq_iff_eq, bne_iff_ne, ne_eq, decide_eq_true_eq]; omega
  rw [this]
  by_cases a : c.toNat ≥ 65
  · rw [if_pos (by omega)]
    by_cases b : c.toNat ≤ 90
    · rw [if_pos (by omega)]; congr 1; rw [eq_comm, decide_eq_true_eq]; omega
    · rw [if_neg (by omega)]
      by_cases e : c.toNat ≥ 97
      · rw [if_pos (by omega)]; congr 1; rw [Bool.eq_iff_iff]; simp only [decide_eq_true_eq]; omega
      · rw [if_neg (by omega)]; congr 1; rw [eq_comm, decide_eq_false_iff_not]; omega
  · rw [if_neg (by omega), if_neg (by omega)]; congr 1; rw [eq_comm, decide_eq_false_iff_not]; omega
theorem rdigit_f (c : UInt8) : salchowref09_digit.f (c.toNat : Int) = some (isDig c) := by
  unfold salchowref09_digit.f
  have hk := isDig_iff c
  by_cases a : c.toNat ≥ 48
  · rw [if_pos (by omega)]; congr 1; rw [Bool.eq_iff_iff, hk]; simp only [decide_eq_true_eq]; omega
  · rw [if_neg (by omega)]; congr 1; rw [eq_comm, ← Bool.not_eq_true, hk]; omega
theorem rrun_f (c : UInt8) : salchowref09_run.f (c.toNat : Int) = some (isRunB c) := by
  unfold salchowref09_run.f
  rw [rletter_f, rdigit_f]
  simp only [Option.bind_some]
  have h2 := kind2 c.toNat
  have h3 := kind3 c.toNat
  have h4 := kind4 c.toNat
  have hd := isDig_iff c
  have hl : isLet c = true ↔ (kindOf c.toNat = 2 ∧ c.toNat ≠ 95) := by simp [isLet]
  have hr : isRunB c = true ↔ (kindOf c.toNat = 2 ∨ kindOf c.toNat = 3 ∨ kindOf c.toNat = 4) := by simp [isRunB, or_assoc]
  by_cases a : isLet c = true
  · rw [if_pos a]; congr 1; rw [eq_comm, hr]; left; exact (hl.1 a).1
  · rw [if_neg a]
    by_cases b : isDig c = true
    · rw [if_pos b]; congr 1; rw [eq_comm, hr]; right; left; rw [h3, ← hd]; exact b
    · rw [if_neg b]
      by_cases e : c.toNat = 95
      · rw [if_pos (by omega)]; congr 1; rw [eq_comm, hr]; left; rw [h2]; omega
      · rw [if_neg (by omega)]; congr 1
        rw [Bool.eq_iff_iff, hr, beq_iff_eq]
        rw [hl] at a
        rw [hd, ← h3] at b
        constructor
        · intro h; right; right; rw [h4]; omega
        · intro h
          rcases h with h | h | h
          · exact absurd ⟨h, e⟩ a
          · exact absurd h b
          · rw [h4] at h; omega
theorem rsign_f (c : UInt8) : Ev (fun k => salchowref09_sign.f k (c.toNat : Int)) (decide (kindOf c.toNat = 5)) := by
  have hk := kind5 c.toNat
  unfold salchowref09_sign.f
  have step : ∀ (i : Nat) (b : Bool) (x : Nat), i < 11 → bt (⟨#[40, 41, 43, 45, 42, 47, 44, 61, 59, 123, 125]⟩ : ByteArray) (i : Int) = (x : Int) →
      (c.toNat ≠ x → Ev (fun k => salchowref09_sign.l0 k (c.toNat : Int) ((i + 1 : Nat) : Int)) b) → (c.toNat = x → b = true) → Ev (fun k => salchowref09_sign.l0 k (c.toNat : Int) (i : Int)) b := by
    intro i b x hi hx h hb
    refine Ev.succ ?_
    simp only [salchowref09_sign.l0]
    rw [hx, wrap_nat i (by omega)]
    refine Ev.ifp (by omega) (Ev.ifp (by omega) ?_)
    by_cases e : c.toNat = x
    · exact Ev.ifp (by omega) (Ev.ret (hb e).symm)
    · exact Ev.ifn (by omega) (h e)
  refine step 0 _ 40 (by omega) (by decide) (fun h0 => ?_) (fun e => by rw [decide_eq_true_eq]; omega)
  refine step 1 _ 41 (by omega) (by decide) (fun h1 => ?_) (fun e => by rw [decide_eq_true_eq]; omega)
  refine step 2 _ 43 (by omega) (by decide) (fun h2 => ?_) (fun e => by rw [decide_eq_true_eq]; omega)
  refine step 3 _ 45 (by omega) (by decide) (fun h3 => ?_) (fun e => by rw [decide_eq_true_eq]; omega)
  refine step 4 _ 42 (by omega) (by decide) (fun h4 => ?_) (fun e => by rw [decide_eq_true_eq]; omega)
  refine step 5 _ 47 (by omega) (by decide) (fun h5 => ?_) (fun e => by rw [decide_eq_true_eq]; omega)
  refine step 6 _ 44 (by omega) (by decide) (fun h6 => ?_) (fun e => by rw [decide_eq_true_eq]; omega)
  refine step 7 _ 61 (by omega) (by decide) (fun h7 => ?_) (fun e => by rw [decide_eq_true_eq]; omega)
  refine step 8 _ 59 (by omega) (by decide) (fun h8 => ?_) (fun e => by rw [decide_eq_true_eq]; omega)
  refine step 9 _ 123 (by omega) (by decide) (fun h9 => ?_) (fun e => by rw [decide_eq_true_eq]; omega)
  refine step 10 _ 125 (by omega) (by decide) (fun h10 => ?_) (fun e => by rw [decide_eq_true_eq]; omega)
  refine Ev.succ ?_
  simp only [salchowref09_sign.l0]
  refine Ev.ifn (by omega) (Ev.ret ?_)
  rw [eq_comm, decide_eq_false_iff_not]; omega
theorem rhas_f (s : ByteArray) (hs : s.size ≤ 1000000) (q : Bool) : ∀ (d i : Nat) (l : List UInt8), i ≤ s.size → s.size - i = d → (lst s).drop i = l →
    Ev (fun k => salchowref09_has.l0 k s q (!q) i) (if q then l.any isLet else l.any isDot) := by
  intro d
  induction d with
  | zero =>
    intro i l hi hd hl
    obtain rfl : i = s.size := by omega
    obtain rfl : l = [] := by rw [← hl]; exact List.drop_eq_nil_of_le (by rw [lst_length]; omega)
    refine Ev.succ ?_
    simp only [salchowref09_has.l0]
    exact Ev.ifn (by omega) (Ev.ret (by simp))
  | succ d ih =>
    intro i l hi hd hl
    cases l with
    | nil => exact absurd (at_nil hi hl) (by omega)
    | cons c l =>
      obtain ⟨h1, h2, h3⟩ := at_cons hl
      have hi2 := ih (i + 1) l (by omega) (by omega) h3
      refine Ev.succ ?_
      simp only [salchowref09_has.l0]
      rw [h2, wrap_nat i (by omega)]
      refine Ev.ifp (by omega) ?_
      cases q with
      | true =>
        refine Ev.ifp rfl (Ev.ifp (by omega) (Ev.val (rletter_f c) ?_))
        by_cases a : isLet c = true
        · exact Ev.ifp a (Ev.ret (by simp [a]))
        · refine Ev.ifn a (Ev.ifn (by simp) ?_)
          rw [Bool.not_eq_true] at a
          simpa [a] using hi2
      | false =>
        refine Ev.ifn (by simp) (Ev.ifp (by simp) (Ev.ifp (by omega) ?_))
        by_cases a : c.toNat = 46
        · exact Ev.ifp (by omega) (Ev.ret (by simp [isDot, a]))
        · refine Ev.ifn (by omega) ?_
          have : isDot c = false := by simp [isDot, a]
          simpa [this] using hi2
theorem rdigits_f (s : ByteArray) (hs : s.size ≤ 1000000) : Ev (fun k => salchowref09_digits.f k s) (decide (lst s ≠ []) && (lst s).all isDig) := by
  have loop : ∀ (d i : Nat) (l : List UInt8), i ≤ s.size → s.size - i = d → (lst s).drop i = l → Ev (fun k => salchowref09_digits.l0 k s i) (decide (lst s ≠ []) && l.all isDig) := by
    intro d
    induction d with
    | zero =>
      intro i l hi hd hl
      obtain rfl : i = s.size := by omega
      obtain rfl : l = [] := by rw [← hl]; exact List.drop_eq_nil_of_le (by rw [lst_length]; omega)
      refine Ev.succ ?_
      simp only [salchowref09_digits.l0]
      refine Ev.ifn (by omega) (Ev.ret ?_)
      simp only [List.all_nil, Bool.and_true]
      rw [Bool.eq_iff_iff]; simp only [decide_eq_true_eq, ← List.length_pos_iff, lst_length]; omega
    | succ d ih =>
      intro i l hi hd hl
      cases l with
      | nil => exact absurd (at_nil hi hl) (by omega)
      | cons c l =>
        obtain ⟨h1, h2, h3⟩ := at_cons hl
        have hi2 := ih (i + 1) l (by omega) (by omega) h3
        refine Ev.succ ?_
        simp only [salchowref09_digits.l0]
        rw [h2, wrap_nat i (by omega)]
        refine Ev.ifp (by omega) (Ev.ifp (by omega) (Ev.val (rdigit_f c) ?_))
        by_cases a : isDig c = true
        · refine Ev.ifp a ?_
          simpa [a] using hi2
        · refine Ev.ifn a (Ev.ret ?_)
          rw [Bool.not_eq_true] at a
          simp [a]
  exact loop _ 0 _ (by omega) rfl rfl
def valL (a : Nat) (l : List UInt8) : Nat := l.foldl (fun n c => n * 10 + (c.toNat - 48)) a
theorem step_dig (n : Nat) (c : UInt8) (hn : n < 10 ^ 16) (hc : isDig c = true) : wrap64 (wrap64 (10 * (n : Int)) + (((c.toNat : Int) - 48) % 256)) = ((n * 10 + (c.toNat - 48) : Nat) : Int) := by
  have hc := (isDig_iff c).1 hc
  rw [wrap64_of (i := 10 * (n : Int)) (by omega) (by omega), wrap64_of (by omega) (by omega)]
  omega
theorem step_dig' (n : Nat) (c : UInt8) (hn : n < 10 ^ 16) (hc : isDig c = true) : wrap64 (wrap64 ((n : Int) * 10) + (((c.toNat : Int) - 48) % 256)) = ((n * 10 + (c.toNat - 48) : Nat) : Int) := by
  rw [Int.mul_comm]; exact step_dig n c hn hc
theorem rl2_f (p : ByteArray) (hp : (lst p).all isDig = true) (hs : p.size ≤ 1000000) : ∀ (d i n : Nat), i ≤ 3 → 3 - i = d → n < 10 ^ (10 + i) →
    Ev (fun k => salchowref09_number.l2 k p n i) (if valL n (((lst p ++ [48, 48, 48]).take 3).drop i) > 1000000000 then (0, 5) else ((valL n (((lst p ++ [48, 48, 48]).take 3).drop i) : Int), 0)) := by
  have hl3 : ((lst p ++ [48, 48, 48]).take 3).length = 3 := by rw [List.length_take, List.length_append]; simp
  intro d
  induction d with
  | zero =>
    intro i n hi hd hn
    obtain rfl : i = 3 := by omega
    rw [List.drop_eq_nil_of_le (by omega)]
    refine Ev.succ ?_
    simp only [salchowref09_number.l2]
    refine Ev.ifn (by omega) ?_
    show Ev _ (if n > 1000000000 then (0, 5) else ((n : Int), 0))
    by_cases h : n > 1000000000
    · exact Ev.ifp (by omega) (Ev.ret (by rw [if_pos h]))
    · exact Ev.ifn (by omega) (Ev.ret (by rw [if_neg h]))
  | succ d ih =>
    intro i n hi hd hn
    have hnb : n < 10 ^ 16 := Nat.lt_of_lt_of_le hn (Nat.pow_le_pow_right (by omega) (by omega))
    have hcons : ((lst p ++ [48, 48, 48]).take 3).drop i = ((lst p ++ [48, 48, 48]).take 3)[i]'(by omega) :: ((lst p ++ [48, 48, 48]).take 3).drop (i + 1) := List.drop_eq_getElem_cons (by omega)
    rw [hcons]
    refine Ev.succ ?_
    simp only [salchowref09_number.l2]
    refine Ev.ifp (by omega) ?_
    rw [wrap_nat i (by omega)]
    by_cases h : i < p.size
    · obtain ⟨c, hc1, hc2⟩ := bt_get h
      have hg : ((lst p ++ [48, 48, 48]).take 3)[i]'(by omega) = c := by
        rw [List.getElem_take, List.getElem_append_left (by rw [lst_length]; exact h)]
        exact (List.getElem?_eq_some_iff.1 hc1).2
      have hdig : isDig c = true := by
        refine (List.all_eq_true.1 hp) c ?_
        exact List.mem_of_getElem? hc1
      refine Ev.ifp (by omega) (Ev.ifp (by omega) ?_)
      rw [hc2, step_dig' n c hnb hdig, hg]
      have hb := (isDig_iff c).1 hdig
      have he : 10 ^ (10 + (i + 1)) = 10 ^ (10 + i) * 10 := Nat.pow_succ ..
      exact ih (i + 1) (n * 10 + (c.toNat - 48)) (by omega) (by omega) (by omega)
    · have hg : ((lst p ++ [48, 48, 48]).take 3)[i]'(by omega) = 48 := by
        rw [List.getElem_take, List.getElem_append_right (by rw [lst_length]; omega)]
        have hm := List.getElem_mem (l := ([48, 48, 48] : List UInt8)) (n := i - (lst p).length) (by rw [lst_length]; simp; omega)
        generalize ([48, 48, 48] : List UInt8)[i - (lst p).length]'_ = x at hm ⊢
        simp only [List.mem_cons, List.not_mem_nil, or_false, or_self] at hm
        exact hm
      refine Ev.ifn (by omega) ?_
      have hw : wrap64 ((n : Int) * 10) = ((n * 10 + ((48 : UInt8).toNat - 48) : Nat) : Int) := by
        rw [wrap64_of (by omega) (by omega)]
        show (n : Int) * 10 = ((n * 10 + (48 - 48) : Nat) : Int)
        omega
      rw [hw, hg]
      have he : 10 ^ (10 + (i + 1)) = 10 ^ (10 + i) * 10 := Nat.pow_succ ..
      have h48 : (48 : UInt8).toNat = 48 := rfl
      exact ih (i + 1) (n * 10 + ((48 : UInt8).toNat - 48)) (by omega) (by omega) (by rw [h48]; omega)
theorem rl1_f (w p : ByteArray) (hw : (lst w).all isDig = true) (hp : (lst p).all isDig = true) (hws : w.size ≤ 10) (hs : p.size ≤ 1000000) : ∀ (d i n : Nat) (l : List UInt8), i ≤ w.size → w.size - i = d → (lst w).drop i = l → n < 10 ^ i →
    Ev (fun k => salchowref09_number.l1 k w p n i) (if valL (valL n l) ((lst p ++ [48, 48, 48]).take 3) > 1000000000 then (0, 5) else ((valL (valL n l) ((lst p ++ [48, 48, 48]).take 3) : Int), 0)) := by
  intro d
  induction d with
  | zero =>
    intro i n l hi hd hl hn
    obtain rfl : i = w.size := by omega
    obtain rfl : l = [] := by rw [← hl]; exact List.drop_eq_nil_of_le (by rw [lst_length]; omega)
    refine Ev.succ ?_
    simp only [salchowref09_number.l1]
    refine Ev.ifn (by omega) ?_
    have := rl2_f p hp hs 3 0 n (by omega) rfl (Nat.lt_of_lt_of_le hn (Nat.pow_le_pow_right (by omega) (by omega)))
    exact this
  | succ d ih =>
    intro i n l hi hd hl hn
    cases l with
    | nil => exact absurd (at_nil hi hl) (by omega)
    | cons c l =>
      obtain ⟨h1, h2, h3⟩ := at_cons hl
      have hdig : isDig c = true := by
        refine (List.all_eq_true.1 hw) c ?_
        have : c ∈ (lst w).drop i := by rw [hl]; exact List.mem_cons_self
        exact List.mem_of_mem_drop this
      have hnb : n < 10 ^ 16 := Nat.lt_of_lt_of_le hn (Nat.pow_le_pow_right (by omega) (by omega))
      refine Ev.succ ?_
      simp only [salchowref09_number.l1]
      rw [h2, wrap_nat i (by omega), step_dig n c hnb hdig]
      refine Ev.ifp (by omega) (Ev.ifp (by omega) ?_)
      have hb := (isDig_iff c).1 hdig
      have he : 10 ^ (i + 1) = 10 ^ i * 10 := Nat.pow_succ ..
      exact ih (i + 1) (n * 10 + (c.toNat - 48)) l (by omega) (by omega) h3 (by omega)
theorem valL_append (a : Nat) (l m : List UInt8) : valL (valL a l) m = valL a (l ++ m) := by simp [valL]
theorem digitsVal_eq (l : List UInt8) : digitsVal l = valL 0 l := rfl
theorem rj3_f (w p : ByteArray) (hs : w.size + p.size ≤ 1000000) (b : Bool) (hb : b = false → (lst w).all isDig = true ∧ (lst p).all isDig = true) :
    Ev (fun k => salchowref09_number.j3 k w p b) (if b then (0, 2) else tailL (lst w) (lst p)) := by
  refine Ev.succ ?_
  simp only [salchowref09_number.j3]
  cases b with
  | true => exact Ev.ifp (by simp) (Ev.ret (by simp))
  | false =>
    obtain ⟨h1, h2⟩ := hb rfl
    refine Ev.ifn (by simp) ?_
    simp only [Bool.false_eq_true, if_false]
    unfold tailL
    rw [lst_length, digitsVal_eq]
    by_cases h10 : 10 < w.size
    · exact Ev.ifp (by omega) (Ev.ret (by rw [if_pos h10]))
    · refine Ev.ifn (by omega) ?_
      rw [if_neg h10]
      have := rl1_f w p h1 h2 (by omega) (by omega) _ 0 0 (lst w) (by omega) rfl rfl (by decide)
      rw [valL_append] at this
      exact this
theorem rj2_f (w p : ByteArray) (hs : w.size + p.size ≤ 1000000) (hp : (lst p).all isDig = true) :
    Ev (fun k => salchowref09_number.j2 k w p) (if lst w = [] ∨ (1 < (lst w).length ∧ (lst w).head? = some 48) then (0, 2) else if (lst w).all isDig = false then (0, 2) else tailL (lst w) (lst p)) := by
  have h48 : ∀ c : UInt8, (some c = some (48 : UInt8)) ↔ c.toNat = 48 := fun c => byte_eq (by decide)
  refine Ev.succ ?_
  simp only [salchowref09_number.j2]
  refine Ev.bind (rdigits_f w (by omega)) ?_
  rw [lst_length]
  by_cases h0 : lst w = []
  · refine Ev.ifn (by simp [h0]) ?_
    rw [if_pos (.inl h0)]
    simpa using rj3_f w p hs true (by simp)
  · have hp0 : 0 < w.size := by rw [← lst_length]; exact List.length_pos_iff.2 h0
    obtain ⟨c, hc1, hc2⟩ := head_bt hp0
    by_cases ha : (lst w).all isDig = true
    · refine Ev.ifp (by simp [h0, ha]) ?_
      rw [hc2]
      by_cases h1 : 1 < w.size
      · refine Ev.ifp (by omega) (Ev.ifp (by omega) ?_)
        by_cases hz : c.toNat = 48
        · have : ((c.toNat : Int) == 48) = true := by rw [beq_iff_eq]; omega
          rw [this, if_pos (.inr ⟨h1, by rw [hc1, h48]; exact hz⟩)]
          simpa using rj3_f w p hs true (by simp)
        · have : ((c.toNat : Int) == 48) = false := by rw [beq_eq_false_iff_ne]; omega
          rw [this, if_neg (by rintro (h | h); exact h0 h; have := h.2; rw [hc1, h48] at this; exact hz this)]
          simpa [ha] using rj3_f w p hs false (fun _ => ⟨ha, hp⟩)
      · refine Ev.ifn (by omega) ?_
        rw [if_neg (by rintro (h | h); exact h0 h; omega)]
        simpa [ha] using rj3_f w p hs false (fun _ => ⟨ha, hp⟩)
    · refine Ev.ifn (by simp [ha]) ?_
      rw [Bool.not_eq_true] at ha
      have := rj3_f w p hs true (by simp)
      by_cases hc : lst w = [] ∨ (1 < w.size ∧ (lst w).head? = some 48)
      · rw [if_pos hc]; simpa using this
      · rw [if_neg hc]; simpa [ha] using this
theorem rj2_l (a b : List UInt8) (hs : a.length + b.length ≤ 1000000) (hp : b.all isDig = true) :
    Ev (fun k => salchowref09_number.j2 k (str a) (str b)) (if a = [] ∨ (1 < a.length ∧ a.head? = some 48) then (0, 2) else if a.all isDig = false then (0, 2) else tailL a b) :=
  rj2_f (str a) (str b) (by rw [size_str, size_str]; exact hs) hp
theorem findIdx_cons (t : List UInt8) (c : UInt8) : (c :: t).findIdx (· == 46) = if c.toNat = 46 then 0 else t.findIdx (· == 46) + 1 := by
  rw [List.findIdx_cons]
  by_cases h : c.toNat = 46
  · have : (c == 46) = true := by rw [beq_iff_eq, ← UInt8.toNat_inj]; exact h
    rw [this, if_pos h]; rfl
  · have : (c == 46) = false := by rw [beq_eq_false_iff_ne]; intro e; exact h (by rw [e]; rfl)
    rw [this, if_neg h]; rfl
theorem rnumber_f (s : ByteArray) (hs : s.size ≤ 1000000) : Ev (fun k => salchowref09_number.f k s) (numL (lst s)) := by
  have hj1 : Ev (fun k => salchowref09_number.j1 k s (((lst s).findIdx (· == 46) : Nat) : Int)) (numL (lst s)) := by
    have hle : (lst s).findIdx (· == 46) ≤ s.size := by rw [← lst_length]; exact List.findIdx_le_length
    have e : numL (lst s) = (if (lst s).take ((lst s).findIdx (· == 46)) = [] ∨ (1 < ((lst s).take ((lst s).findIdx (· == 46))).length ∧ ((lst s).take ((lst s).findIdx (· == 46))).head? = some 48) ∨ ((lst s).findIdx (· == 46) < s.size ∧ ((lst s).drop ((lst s).findIdx (· == 46) + 1) = [] ∨ 3 < ((lst s).drop ((lst s).findIdx (· == 46) + 1)).length)) then (0, 2)
        else if ((lst s).take ((lst s).findIdx (· == 46)) ++ (lst s).drop ((lst s).findIdx (· == 46) + 1)).all isDig = false then (0, 2) else tailL ((lst s).take ((lst s).findIdx (· == 46))) ((lst s).drop ((lst s).findIdx (· == 46) + 1))) := rfl
    rw [e]
    generalize (lst s).findIdx (· == 46) = i at hle ⊢
    have hx : s.extract 0 ((i : Int)).toNat = str ((lst s).take i) := by apply lst_inj; rw [lst_extract]; rfl
    have hy : s.extract (((i + 1 : Nat) : Int)).toNat s.size = str ((lst s).drop (i + 1)) := by
      apply lst_inj; rw [lst_extract, List.take_of_length_le (by rw [lst_length]; omega)]; rfl
    refine Ev.succ ?_
    simp only [salchowref09_number.j1]
    rw [wrap_nat i (by omega), hx, hy]
    refine Ev.ifp (by omega) (Ev.ifp (by omega) ?_)
    have hlt : ((lst s).take i).length = i := by rw [List.length_take, lst_length]; omega
    have hld : ((lst s).drop (i + 1)).length = s.size - (i + 1) := by rw [List.length_drop, lst_length]
    by_cases hi : i < s.size
    · refine Ev.ifp (by omega) (Ev.ifp (by omega) (Ev.ifp (by omega) (Ev.bind (rdigits_f (str ((lst s).drop (i + 1))) (by rw [size_str]; omega)) ?_)))
      simp only [lst_str]
      by_cases hp : (lst s).drop (i + 1) = []
      · refine Ev.ifn (by simp [hp]) (Ev.ret ?_)
        rw [if_pos (.inr (.inr ⟨hi, .inl hp⟩))]
      · by_cases ha : ((lst s).drop (i + 1)).all isDig = true
        · refine Ev.ifp (by simp [hp, ha]) ?_
          rw [size_str]
          by_cases h3 : 3 < ((lst s).drop (i + 1)).length
          · refine Ev.ifp (by omega) (Ev.ret ?_)
            rw [if_pos (.inr (.inr ⟨hi, .inr h3⟩))]
          · refine Ev.ifn (by omega) ?_
            have := rj2_l ((lst s).take i) ((lst s).drop (i + 1)) (by omega) ha
            rw [List.all_append, ha, Bool.and_true]
            by_cases hc : (lst s).take i = [] ∨ (1 < ((lst s).take i).length ∧ ((lst s).take i).head? = some 48)
            · rw [if_pos hc] at this
              rw [if_pos (hc.elim .inl (fun h => .inr (.inl h)))]
              exact this
            · rw [if_neg hc] at this
              rw [if_neg (by rintro (h | h | h); exact hc (.inl h); exact hc (.inr h); rcases h.2 with h | h; exact hp h; exact h3 h)]
              exact this
        · refine Ev.ifn (by simp [ha]) (Ev.ret ?_)
          rw [Bool.not_eq_true] at ha
          rw [List.all_append, ha, Bool.and_false]
          split <;> rfl
    · have hd : (lst s).drop (i + 1) = [] := List.drop_eq_nil_of_le (by rw [lst_length]; omega)
      refine Ev.ifn (by omega) ?_
      rw [hd]
      have := rj2_l ((lst s).take i) [] (by simp; omega) rfl
      rw [show (str [] : ByteArray) = ⟨#[]⟩ from rfl] at this
      rw [List.append_nil]
      by_cases hc : (lst s).take i = [] ∨ (1 < ((lst s).take i).length ∧ ((lst s).take i).head? = some 48)
      · rw [if_pos hc] at this
        rw [if_pos (hc.elim .inl (fun h => .inr (.inl h)))]
        exact this
      · rw [if_neg hc] at this
        rw [if_neg (by rintro (h | h | h); exact hc (.inl h); exact hc (.inr h); exact hi h.1)]
        exact this
  have loop : ∀ (d i : Nat) (l : List UInt8), i ≤ s.size → s.size - i = d → (lst s).drop i = l → i + l.findIdx (· == 46) = (lst s).findIdx (· == 46) → Ev (fun k => salchowref09_number.l0 k s i) (numL (lst s)) := by
    intro d
    induction d with
    | zero =>
      intro i l hi hd hl hf
      obtain rfl : i = s.size := by omega
      obtain rfl : l = [] := by rw [← hl]; exact List.drop_eq_nil_of_le (by rw [lst_length]; omega)
      refine Ev.succ ?_
      simp only [salchowref09_number.l0]
      refine Ev.ifn (by omega) ?_
      simp only [List.findIdx_nil, Nat.add_zero] at hf
      rw [hf]; exact hj1
    | succ d ih =>
      intro i l hi hd hl hf
      cases l with
      | nil => exact absurd (at_nil hi hl) (by omega)
      | cons c l =>
        obtain ⟨h1, h2, h3⟩ := at_cons hl
        rw [findIdx_cons] at hf
        refine Ev.succ ?_
        simp only [salchowref09_number.l0]
        rw [h2, wrap_nat i (by omega)]
        refine Ev.ifp (by omega) (Ev.ifp (by omega) ?_)
        by_cases h46 : c.toNat = 46
        · rw [if_pos h46, Nat.add_zero] at hf
          refine Ev.ifp (by omega) ?_
          rw [hf]; exact hj1
        · rw [if_neg h46] at hf
          exact Ev.ifn (by omega) (ih (i + 1) l (by omega) (by omega) h3 (by omega))
  exact loop _ 0 (lst s) (by omega) rfl rfl (by omega)
theorem rtitle_loop (s : ByteArray) (hs : s.size ≤ 1000000) : ∀ (d i : Nat) (l : List UInt8), i ≤ s.size → s.size - i = d → (lst s).drop i = l →
    Ev (fun k => salchowref09_Title.l0 k s i) (if l.any badT then 2 else if 40 < s.size then 6 else 0) := by
  intro d
  induction d with
  | zero =>
    intro i l hi hd hl
    obtain rfl : i = s.size := by omega
    obtain rfl : l = [] := by rw [← hl]; exact List.drop_eq_nil_of_le (by rw [lst_length]; omega)
    refine Ev.succ ?_
    simp only [salchowref09_Title.l0]
    refine Ev.ifn (by omega) ?_
    by_cases h : 40 < s.size
    · exact Ev.ifp (by omega) (Ev.ret (by simp [h]))
    · exact Ev.ifn (by omega) (Ev.ret (by simp [h]))
  | succ d ih =>
    intro i l hi hd hl
    cases l with
    | nil => exact absurd (at_nil hi hl) (by omega)
    | cons c l =>
      obtain ⟨h1, h2, h3⟩ := at_cons hl
      refine Ev.succ ?_
      simp only [salchowref09_Title.l0]
      rw [h2, wrap_nat i (by omega)]
      refine Ev.ifp (by omega) (Ev.ifp (by omega) ?_)
      by_cases ha : c.toNat < 32
      · exact Ev.ifp (by omega) (Ev.ret (by simp [badT, ha]))
      · refine Ev.ifn (by omega) ?_
        by_cases hb : 126 < c.toNat
        · exact Ev.ifp (by omega) (Ev.ret (by simp [badT, hb]))
        · refine Ev.ifn (by omega) ?_
          by_cases hc : c.toNat = 34
          · exact Ev.ifp (by omega) (Ev.ret (by simp [badT, hc]))
          · refine Ev.ifn (by omega) ?_
            have : badT c = false := by simp [badT, ha, hb, hc]
            simp only [List.any_cons, this, Bool.false_or]
            exact ih (i + 1) l (by omega) (by omega) h3
theorem rtitle_f (s : ByteArray) (hs : s.size ≤ 1000000) : Ev (fun k => salchowref09_Title.f k s) (titleL (lst s)) := by
  have hloop := rtitle_loop s hs _ 0 (lst s) (by omega) rfl rfl
  unfold salchowref09_Title.f titleL
  by_cases h0 : lst s = []
  · have hz : s.size = 0 := by rw [← lst_length, h0]; rfl
    refine Ev.ifp (by omega) (Ev.succ ?_)
    simp only [salchowref09_Title.j0]
    exact Ev.ifp (by simp) (Ev.ret (by simp [h0]))
  · have hp : 0 < s.size := by
      rw [← lst_length]; exact List.length_pos_iff.2 h0
    refine Ev.ifn (by omega) (Ev.ifp (by omega) ?_)
    obtain ⟨c, hc, hb⟩ := head_bt hp
    obtain ⟨d, hd, he⟩ := last_bt hp
    rw [hb]
    have hw : wrap64 ((s.size : Int) - 1) = ((s.size - 1 : Nat) : Int) := by rw [wrap64_of (by omega) (by omega)]; omega
    rw [hw, he, hc, hd]
    have i1 : (some c = some (32 : UInt8)) ↔ c.toNat = 32 := byte_eq (by decide)
    have i2 : (some d = some (32 : UInt8)) ↔ d.toNat = 32 := byte_eq (by decide)
    by_cases h32 : c.toNat = 32
    · refine Ev.ifp (by omega) (Ev.succ ?_)
      simp only [salchowref09_Title.j0]
      exact Ev.ifp (by simp) (Ev.ret (by rw [if_pos (.inr (.inl (i1.2 h32)))]))
    · refine Ev.ifn (by omega) (Ev.ifp (by omega) (Ev.ifp (by omega) (Ev.succ ?_)))
      simp only [salchowref09_Title.j0]
      by_cases hl : d.toNat = 32
      · refine Ev.ifp (by rw [beq_iff_eq]; omega) (Ev.ret (by rw [if_pos (.inr (.inr (i2.2 hl)))]))
      · refine Ev.ifn (by rw [beq_iff_eq]; omega) ?_
        rw [if_neg (by rw [i1, i2]; simp [h0, h32, hl])]
        rw [lst_length]
        exact hloop
def tokT (n : Nat) (l : List UInt8) : Int × ByteArray × Int × Int × Int × Int :=
  if (tokL l).code = 0 then ((tokL l).kind, str (tokL l).text, (tokL l).n, (n : Int) - l.length, (n : Int) - (tokL l).rest.length, 0)
  else (0, ⟨#[]⟩, 0, 0, 0, (tokL l).code)
theorem rtext_loop (s : ByteArray) (hs : s.size ≤ 1000000) (o : Nat) : ∀ (d i : Nat) (l : List UInt8), o < i → i ≤ s.size → s.size - i = d → (lst s).drop i = l →
    Ev (fun k => salchowref09_Token.l1 k s o i) (match l.dropWhile inStr with
      | [] => (0, ⟨#[]⟩, 0, 0, 0, 2)
      | c :: r => if c.toNat = 34 then (if titleL (((lst s).take i).drop (o + 1) ++ l.takeWhile inStr) = 0 then (3, str (((lst s).take i).drop (o + 1) ++ l.takeWhile inStr), 0, (o : Int), (s.size : Int) - r.length, 0) else (0, ⟨#[]⟩, 0, 0, 0, titleL (((lst s).take i).drop (o + 1) ++ l.takeWhile inStr))) else (0, ⟨#[]⟩, 0, 0, 0, 2)) := by
  have bad : ∀ i : Nat, Ev (fun k => salchowref09_Token.j4 k s o (i : Int) true) (0, ⟨#[]⟩, 0, 0, 0, 2) := by
    intro i
    refine Ev.succ ?_
    simp only [salchowref09_Token.j4]
    exact Ev.ifp (by simp) (Ev.now _)
  intro d
  induction d with
  | zero =>
    intro i l ho hi hd hl
    obtain rfl : i = s.size := by omega
    obtain rfl : l = [] := by rw [← hl]; exact List.drop_eq_nil_of_le (by rw [lst_length]; omega)
    refine Ev.succ ?_
    simp only [salchowref09_Token.l1]
    refine Ev.ifn (by omega) (Ev.succ ?_)
    simp only [salchowref09_Token.j3]
    exact Ev.ifp (by simp) (bad _)
  | succ d ih =>
    intro i l ho hi hd hl
    cases l with
    | nil => exact absurd (at_nil hi hl) (by omega)
    | cons c l =>
      obtain ⟨h1, h2, h3⟩ := at_cons hl
      refine Ev.succ ?_
      simp only [salchowref09_Token.l1]
      rw [h2, wrap_nat i (by omega)]
      refine Ev.ifp (by omega) (Ev.ifp (by omega) ?_)
      by_cases h34 : c.toNat = 34
      · have hin' : inStr c = false := by simp [inStr, h34]
        refine Ev.ifp (by omega) (Ev.succ ?_)
        simp only [salchowref09_Token.j3]
        rw [h2]
        refine Ev.ifn (by omega) (Ev.ifp (by omega) (Ev.ifp (by omega) ?_))
        have hq : ((c.toNat : Int) != 34) = false := by rw [bne_eq_false_iff_eq]; omega
        rw [hq]
        refine Ev.succ ?_
        simp only [salchowref09_Token.j4]
        rw [wrap_nat o (by omega), wrap_nat i (by omega)]
        refine Ev.ifn (by simp) (Ev.ifp (by omega) (Ev.ifp (by omega) (Ev.ifp (by omega) ?_)))
        have hx : s.extract (((o + 1 : Nat) : Int)).toNat ((i : Int)).toNat = str (((lst s).take i).drop (o + 1)) := by
          apply lst_inj; rw [lst_extract]; rfl
        rw [hx]
        have ht := rtitle_f (str (((lst s).take i).drop (o + 1))) (by rw [size_str, List.length_drop, List.length_take, lst_length]; omega)
        refine Ev.bind ht ?_
        rw [List.dropWhile_cons_of_neg (by simp [hin']), List.takeWhile_cons_of_neg (by simp [hin']), List.append_nil]
        simp only [h34, if_true, lst_str]
        have hr : (s.size : Int) - (l.length : Int) = ((i + 1 : Nat) : Int) := by
          rw [← h3, List.length_drop, lst_length]; omega
        rw [hr]
        by_cases hz : titleL (((lst s).take i).drop (o + 1)) = 0
        · exact Ev.ifp hz (Ev.ret (by rw [if_pos hz]))
        · exact Ev.ifn hz (Ev.ret (by rw [if_neg hz]))
      · refine Ev.ifn (by omega) ?_
        by_cases h10 : c.toNat = 10
        · have hin' : inStr c = false := by simp [inStr, h10]
          refine Ev.ifp (by omega) (Ev.succ ?_)
          simp only [salchowref09_Token.j3]
          rw [h2]
          refine Ev.ifn (by omega) (Ev.ifp (by omega) (Ev.ifp (by omega) ?_))
          have hq : ((c.toNat : Int) != 34) = true := by rw [bne_iff_ne]; omega
          rw [hq, List.dropWhile_cons_of_neg (by simp [hin'])]
          simp only [h34, if_false]
          exact bad i
        · have hin' : inStr c = true := by simp [inStr, h34, h10]
          refine Ev.ifn (by omega) ?_
          have htk : ((lst s).take (i + 1)).drop (o + 1) = ((lst s).take i).drop (o + 1) ++ [c] := by
            have e : (lst s).take (i + 1) = (lst s).take i ++ [c] := by
              rw [List.take_succ_eq_append_getElem (by rw [lst_length]; exact h1)]
              congr 2
              have := congrArg (·[0]?) hl
              simp only [List.getElem?_drop, Nat.add_zero, List.getElem?_cons_zero] at this
              exact (List.getElem?_eq_some_iff.1 this).2
            rw [e, List.drop_append_of_le_length (by rw [List.length_take, lst_length]; omega)]
          have := ih (i + 1) l (by omega) (by omega) (by omega) h3
          rw [htk] at this
          rw [List.dropWhile_cons_of_pos hin', List.takeWhile_cons_of_pos hin']
          simpa only [List.append_assoc, List.singleton_append] using this
theorem rcls (t rest : List UInt8) (ht : t ≠ []) (s : ByteArray) (hst : lst s = t) (hs : s.size ≤ 1000000) (o e : Int) :
    Ev (fun k => if s.toList = ([] : List UInt8) then (some ((0 : Int), (⟨#[]⟩ : ByteArray), (0 : Int), (0 : Int), (0 : Int), (2 : Int))) else ((salchowref09_has.f k s true false).bind fun t216 => (if t216 = true then ((salchowref09_has.f k s false true).bind fun t217 => (if t217 = true then (some (0, (⟨#[]⟩ : ByteArray), 0, 0, 0, 2)) else (if (s.size : Int) > 32 then (some (0, (⟨#[]⟩ : ByteArray), 0, 0, 0, 6)) else (some (1, s, 0, o, e, 0))))) else ((salchowref09_number.f k s).bind fun bt218 => (if bt218.2 = 0 then (some (2, (⟨#[]⟩ : ByteArray), bt218.1, o, e, 0)) else (some (0, (⟨#[]⟩ : ByteArray), 0, 0, 0, bt218.2)))))))
      (if (clsL t rest).code = 0 then ((clsL t rest).kind, str (clsL t rest).text, (clsL t rest).n, o, e, 0) else (0, ⟨#[]⟩, 0, 0, 0, (clsL t rest).code)) := by
  subst hst
  refine Ev.ifn (by rw [toList_lst]; exact ht) ?_
  have h1 := rhas_f s hs true _ 0 (lst s) (by omega) rfl rfl
  have h2 := rhas_f s hs false _ 0 (lst s) (by omega) rfl rfl
  simp only [if_true] at h1
  refine Ev.bind h1 ?_
  unfold clsL
  by_cases hl : (lst s).any isLet = true
  · refine Ev.ifp hl (Ev.bind h2 ?_)
    rw [if_pos (let_num _ hl)]
    unfold wordL
    simp only [Bool.false_eq_true, if_false, hl, if_true, lst_length]
    by_cases hd : (lst s).any isDot = true
    · refine Ev.ifp hd (Ev.ret ?_)
      simp [hd]
    · refine Ev.ifn hd ?_
      rw [Bool.not_eq_true] at hd
      simp only [hd, Bool.false_eq_true, if_false]
      by_cases h32 : 32 < s.size
      · exact Ev.ifp (by omega) (Ev.ret (by simp [h32]))
      · exact Ev.ifn (by omega) (Ev.ret (by simp [h32]))
  · refine Ev.ifn hl (Ev.bind (rnumber_f s hs) ?_)
    rw [Bool.not_eq_true] at hl
    by_cases h : (numL (lst s)).2 = 2
    · rw [if_pos h]
      refine Ev.ifn (by omega) (Ev.ret ?_)
      rw [h]
      unfold wordL
      simp [hl]
    · rw [if_neg h]
      by_cases h0 : (numL (lst s)).2 = 0
      · exact Ev.ifp h0 (Ev.ret (by simp only [h0, if_true]; rfl))
      · exact Ev.ifn h0 (Ev.ret (by simp only [h0, if_false]))
theorem rtoken_f (s : ByteArray) (hs : s.size ≤ 1000000) (o : Nat) (L : List UInt8) (ho : o ≤ s.size) (hL : (lst s).drop o = L) : Ev (fun k => salchowref09_Token.f k s o) (tokT s.size L) := by
  have hlenL : (s.size : Int) - L.length = (o : Int) := by rw [← hL, List.length_drop, lst_length]; omega
  unfold salchowref09_Token.f
  cases L with
  | nil =>
    obtain rfl := at_nil ho hL
    refine Ev.ifp rfl (Ev.ret ?_)
    simp [tokT, tokL, str]
  | cons c L =>
    obtain ⟨g1, g2, g3⟩ := at_cons hL
    refine Ev.ifn (by omega) ?_
    have hone : ((lst s).take (o + 1)).drop o = [c] := by
      rw [List.take_succ_eq_append_getElem (by rw [lst_length]; exact g1), List.drop_append_of_le_length (by rw [List.length_take, lst_length]; omega), List.drop_eq_nil_of_le (by rw [List.length_take]; omega)]
      have := congrArg (·[0]?) hL
      simp only [List.getElem?_drop, Nat.add_zero, List.getElem?_cons_zero] at this
      rw [(List.getElem?_eq_some_iff.1 this).2]; rfl
    have hj1 : ∀ (i : Nat) (l : List UInt8), o ≤ i → i ≤ s.size → (lst s).drop i = l → ((lst s).take i).drop o = (c :: L).takeWhile isRunB → l = (c :: L).dropWhile isRunB → Ev (fun k => salchowref09_Token.j1 k s o i) (tokT s.size (c :: L)) := by
      intro i l hoi hi hl ht hr
      have hx : s.extract ((o : Int)).toNat ((i : Int)).toNat = str ((c :: L).takeWhile isRunB) := by
        apply lst_inj; rw [lst_extract, lst_str, ← ht]; rfl
      have hil : (s.size : Int) - (l.length : Int) = (i : Int) := by rw [← hl, List.length_drop, lst_length]; omega
      refine Ev.succ ?_
      simp only [salchowref09_Token.j1]
      rw [g2, wrap_nat o (by omega), hx]
      refine Ev.ifp (by omega) (Ev.ifp (by omega) (Ev.ifp (by omega) (Ev.ifp (by omega) ?_)))
      unfold tokT
      rw [hlenL]
      by_cases h34 : c.toNat = 34
      · have hrun : isRunB c = false := by
          rw [← Bool.not_eq_true]; intro h
          have h2 := kind2 c.toNat; have h3 := kind3 c.toNat; have h4 := kind4 c.toNat
          simp only [isRunB, Bool.or_eq_true, beq_iff_eq, h2, h3, h4] at h; omega
        have ht2 : tokL (c :: L) = textL L := by
          unfold tokL; dsimp only; rw [if_neg (by simp [hrun]), if_pos h34]
        rw [ht2]
        refine Ev.ifp (by omega) ?_
        have h := rtext_loop s hs o _ (o + 1) L (by omega) (by omega) rfl g3
        rw [List.drop_eq_nil_of_le (by rw [List.length_take]; omega)] at h
        simp only [List.nil_append] at h
        unfold textL
        cases hd : L.dropWhile inStr with
        | nil => rw [hd] at h; simpa using h
        | cons e r =>
          rw [hd] at h
          by_cases h34 : e.toNat = 34
          · simp only [h34, if_true] at h ⊢; exact h
          · simp only [h34, if_false] at h ⊢; exact h
      · refine Ev.ifn (by omega) (Ev.bind (rsign_f c) ?_)
        by_cases h5 : kindOf c.toNat = 5
        · have hrun : isRunB c = false := by simp [isRunB, h5]
          have ht2 : tokL (c :: L) = ⟨4, [c], 0, L, 0⟩ := by
            unfold tokL; dsimp only; rw [if_neg (by simp [hrun]), if_neg h34, if_pos h5]
          rw [ht2]
          refine Ev.ifp (by simp [h5]) (Ev.ifp (by omega) (Ev.ifp (by omega) (Ev.ret ?_)))
          have hy : s.extract ((o : Int)).toNat (((o + 1 : Nat) : Int)).toNat = str [c] := by
            apply lst_inj; rw [lst_extract, lst_str, ← hone]; rfl
          have hr2 : (s.size : Int) - (L.length : Int) = ((o + 1 : Nat) : Int) := by
            rw [← g3, List.length_drop, lst_length]; omega
          rw [hy]
          simp only [if_true, hr2]
        · refine Ev.ifn (by simp [h5]) ?_
          by_cases hrun : isRunB c = true
          · have ht2 : tokL (c :: L) = clsL ((c :: L).takeWhile isRunB) ((c :: L).dropWhile isRunB) := by
              rw [List.takeWhile_cons_of_pos hrun, List.dropWhile_cons_of_pos hrun]
              unfold tokL; dsimp only; rw [if_pos hrun]
            rw [ht2, ← hr]
            have hrest : ∀ x : List UInt8, (clsL x l).rest = l := by intro x; unfold clsL; split <;> rfl
            rw [hrest, hil]
            exact rcls ((c :: L).takeWhile isRunB) l (by rw [List.takeWhile_cons_of_pos hrun]; simp) (str ((c :: L).takeWhile isRunB)) rfl (by
              rw [size_str]
              have := (List.takeWhile_prefix isRunB (l := c :: L)).length_le
              have h2 : (c :: L).length ≤ s.size := by rw [← hL, List.length_drop, lst_length]; omega
              omega) o i
          · have ht2 : tokL (c :: L) = ⟨0, [], 0, [], 2⟩ := by
              unfold tokL; dsimp only; rw [if_neg hrun, if_neg h34, if_neg h5]
            rw [ht2, List.takeWhile_cons_of_neg hrun]
            exact Ev.ifp (by rw [toList_lst]; rfl) (Ev.ret (by simp))
    have loop : ∀ (d i : Nat) (l : List UInt8), o ≤ i → i ≤ s.size → s.size - i = d → (lst s).drop i = l → (((lst s).take i).drop o) ++ l.takeWhile isRunB = (c :: L).takeWhile isRunB → l.dropWhile isRunB = (c :: L).dropWhile isRunB →
        Ev (fun k => salchowref09_Token.l0 k s o i) (tokT s.size (c :: L)) := by
      intro d
      induction d with
      | zero =>
        intro i l hoi hi hd hl ht hr
        obtain rfl : i = s.size := by omega
        obtain rfl : l = [] := by rw [← hl]; exact List.drop_eq_nil_of_le (by rw [lst_length]; omega)
        refine Ev.succ ?_
        simp only [salchowref09_Token.l0]
        exact Ev.ifn (by omega) (hj1 _ [] hoi hi hl (by simpa using ht) (by simpa using hr))
      | succ d ih =>
        intro i l hoi hi hd hl ht hr
        cases l with
        | nil => exact absurd (at_nil hi hl) (by omega)
        | cons e l =>
          obtain ⟨h1, h2, h3⟩ := at_cons hl
          refine Ev.succ ?_
          simp only [salchowref09_Token.l0]
          rw [h2, wrap_nat i (by omega)]
          refine Ev.ifp (by omega) (Ev.ifp (by omega) (Ev.val (rrun_f e) ?_))
          by_cases hrn : isRunB e = true
          · refine Ev.ifp hrn ?_
            have htk : ((lst s).take (i + 1)).drop o = ((lst s).take i).drop o ++ [e] := by
              have e2 : (lst s).take (i + 1) = (lst s).take i ++ [e] := by
                rw [List.take_succ_eq_append_getElem (by rw [lst_length]; exact h1)]
                congr 2
                have := congrArg (·[0]?) hl
                simp only [List.getElem?_drop, Nat.add_zero, List.getElem?_cons_zero] at this
                exact (List.getElem?_eq_some_iff.1 this).2
              rw [e2, List.drop_append_of_le_length (by rw [List.length_take, lst_length]; omega)]
            rw [List.takeWhile_cons_of_pos hrn] at ht
            rw [List.dropWhile_cons_of_pos hrn] at hr
            refine ih (i + 1) l (by omega) (by omega) (by omega) h3 ?_ hr
            rw [htk, List.append_assoc, List.singleton_append]; exact ht
          · refine Ev.ifn hrn ?_
            rw [List.takeWhile_cons_of_neg hrn, List.append_nil] at ht
            rw [List.dropWhile_cons_of_neg hrn] at hr
            exact hj1 i (e :: l) hoi hi hl ht hr
    exact loop _ o (c :: L) (by omega) ho rfl hL (by rw [List.drop_eq_nil_of_le (by rw [List.length_take]; omega)]; rfl) rfl
theorem rnext_f (s : ByteArray) (hs : s.size ≤ 65536) (i : Nat) (hi : i ≤ s.size) : Ev (fun k => salchowref09_Next.f k s i) (nextT s.size (skipL false ((lst s).drop i))) := by
  unfold salchowref09_Next.f
  refine Ev.ifn (by omega) (Ev.ifn (by omega) ?_)
  have : decide ((i : Int) > (s.size : Int)) = false := by simp; omega
  rw [this]
  refine Ev.succ ?_
  simp only [salchowref09_Next.j0]
  refine Ev.ifn (by simp) (Ev.bind (rskip_f s (by omega) i hi) ?_)
  obtain ⟨j, hj, hl, he⟩ := suffix_at ((skipL_suffix ((lst s).drop i) false).trans (List.drop_suffix i (lst s)))
  rw [he]
  generalize skipL false ((lst s).drop i) = l at hl he ⊢
  refine Ev.bind (rtoken_f s (by omega) j l hj hl) ?_
  unfold tokT nextT
  by_cases hc : (tokL l).code = 0
  · rw [if_pos hc, if_pos hc]
    exact Ev.ifp rfl (Ev.now _)
  · rw [if_neg hc, if_neg hc, he]
    exact Ev.ret (by rw [if_neg hc])
theorem rLex_f (s : ByteArray) (hs : s.size ≤ 65536) : Ev (fun k => salchowref09_Lex.f k s) (lexAns s.size [] (lexL (s.size + 1) (lst s))) := by
  unfold salchowref09_Lex.f
  exact lex_any s (by omega) (fun k i => salchowref09_Next.f k s i) (fun i hi => rnext_f s (by omega) i hi) (fun k a i => salchowref09_Lex.l0 k s a i) (fun k a i => by simp only [salchowref09_Lex.l0]) (s.size + 1) 0 (lst s) [] (by omega) rfl (by rw [lst_length]; omega) (by simp)
end Go.Proofs.YtkifdadhojbohaaDoor.Pu
namespace Go.Proofs.YtkifdadhojbohaaDoor.Pu
open Go.RowKit Go.Proofs.YtkifdadhojbohaaDoor Go.Proofs.YtkifdadhojbohaaDoor.Pr Go.Proofs.YtkifdadhojbohaaDoorW.PrintWords Go.Proofs.YtkifdadhojbohaaDoorW.PrintLast Go.Proofs.YtkifdadhojbohaaDoorW.PrintMore
theorem rParse_f (s : ByteArray) (hs : s.size ≤ 65536) {y : List S41 × Int × Int} (h : PA s y) : Ev (fun k => salchowref10_Parse.f k s) y := by
  unfold salchowref10_Parse.f
  refine Ev.bind (rLex_f s hs) ?_
  cases h with
  | byte e h =>
    rw [h]
    exact Ev.ifn (lexL_code _ _ _ h) (Ev.now _)
  | tok us e h h1 =>
    rw [lexAns_ok s h]
    exact Ev.ifp rfl (rparse_f _ (by have := lexed_len s h; omega) h1)
  | good us cs h h1 =>
    rw [lexAns_ok s h]
    exact Ev.ifp rfl (rparse_f _ (by have := lexed_len s h; omega) h1)
end Go.Proofs.YtkifdadhojbohaaDoor.Pu
