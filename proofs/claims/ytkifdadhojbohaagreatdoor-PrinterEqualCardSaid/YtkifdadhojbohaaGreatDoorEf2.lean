/- Joined out of the texts of this proof that bear the names PrF53 PrF23 PwC PuE PuF PuG PwFr: what each shows stands over it there. -/
import Derived.Test.YtkifdadhojbohaaGreatDoorEk1
import Derived.Test.YtkifdadhojbohaaGreatDoorEf1
import Derived.Test.YtkifdadhojbohaaGreatDoorEw1
import Derived.Test.YtkifdadhojbohaaGreatDoorEq1
import Derived.Test.YtkifdadhojbohaaGreatDoorEc1
import Derived.Test.YtkifdadhojbohaaGreatDoorEp1
set_option linter.unusedVariables false
set_option linter.unusedSimpArgs false
set_option maxHeartbeats 8000000
set_option maxRecDepth 100000
namespace Go.Proofs.YtkifdadhojbohaaGreatDoor.Pr
open Go.Proofs.YtkifdadhojbohaaGreatDoor
open Go.RowKit Go.Proofs.YtkifdadhojbohaaGreatDoorW.PrintWords Go.Proofs.YtkifdadhojbohaaGreatDoorW.PrintLast Go.Proofs.YtkifdadhojbohaaGreatDoorW.PrintMore
attribute [local go_sem] fU fQ gL gK eT eQ fT fP
mutual
def ak.l0 : Nat → List (S46) → Int → Int → ByteArray → List (S46) → Bool → Int → Option (ByteArray × (List (S46)) × Bool × (List (S41)) × Int × Int × Int × Int)
 | 0, _, _, _, _, _, _, _ => none
 | k + 1, x0, x1, x2, x256000, x256001, x256002, x256004 => if 0 ≤ x1 then (if x1 < (x0.length : Int) then ((dm.f ((ag x0 x1).f0) ((ag x0 x1).f1) ((ag x0 x1).f2) ((ag x0 x1).f3)).bind fun t259 => (if t259 = true then (if x256001.length < 3518437208883 then (ak.l0 k x0 (wrap64 (x1 + 1)) x2 x256000 (x256001 ++ [(⟨(ag x0 x1).f0, (ag x0 x1).f1, (ag x0 x1).f2, (ag x0 x1).f3⟩ : S46)]) x256002 x256004) else (none)) else ((bg.f ((ag x0 x1).f0) ((ag x0 x1).f1) ((ag x0 x1).f2) ((ag x0 x1).f3) (⟨#[59]⟩ : ByteArray)).bind fun t265 => (if t265 = true then (some (x256000, x256001, x256002, ([] : List (S41)), x256004, wrap64 (x1 + 1), 0, 0)) else ((bg.f ((ag x0 x1).f0) ((ag x0 x1).f1) ((ag x0 x1).f2) ((ag x0 x1).f3) (⟨#[123]⟩ : ByteArray)).bind fun t267 => (if t267 = true then (if x2 = 8 then (some (x256000, x256001, x256002, ([] : List (S41)), x256004, x1, 6, (ag x0 x1).f3)) else (ak.l1 k x0 (wrap64 (x1 + 1)) x2 x256000 x256001 true ([] : List (S41)) x256004)) else (some (x256000, x256001, x256002, ([] : List (S41)), x256004, x1, 2, (ag x0 x1).f3)))))))) else (none)) else (none)
def ak.l1 : Nat → List (S46) → Int → Int → ByteArray → List (S46) → Bool → List (S41) → Int → Option (ByteArray × (List (S46)) × Bool × (List (S41)) × Int × Int × Int × Int)
 | 0, _, _, _, _, _, _, _, _ => none
 | k + 1, x0, x1, x2, x256000, x256001, x256002, x256003, x256004 => if 0 ≤ x1 then (if x1 < (x0.length : Int) then ((bg.f ((ag x0 x1).f0) ((ag x0 x1).f1) ((ag x0 x1).f2) ((ag x0 x1).f3) (⟨#[125]⟩ : ByteArray)).bind fun t271 => (if t271 = true then (some (x256000, x256001, x256002, x256003, x256004, wrap64 (x1 + 1), 0, 0)) else ((ak.f k x0 x1 (wrap64 (x2 + 1))).bind fun bt272 => (if bt272.2.2.2.2.2.2.1 = 0 then (if x256003.length < 1759218604441 then (ak.l1 k x0 bt272.2.2.2.2.2.1 x2 x256000 x256001 x256002 (x256003 ++ [(⟨bt272.1, bt272.2.1, bt272.2.2.1, bt272.2.2.2.1, bt272.2.2.2.2.1⟩ : S41)]) x256004) else (none)) else (some (x256000, x256001, x256002, x256003, x256004, x1, bt272.2.2.2.2.2.2.1, bt272.2.2.2.2.2.2.2)))))) else (none)) else (none)
def ak.f : Nat → List (S46) → Int → Int → Option (ByteArray × (List (S46)) × Bool × (List (S41)) × Int × Int × Int × Int)
 | 0, _, _, _ => none
 | k + 1, l0, a1, a2 => if 0 ≤ a1 then (if a1 < (l0.length : Int) then (if ((ag l0 a1).f0) = 1 then (ak.l0 k l0 (wrap64 (a1 + 1)) a2 ((ag l0 a1).f1) ([] : List (S46)) false ((ag l0 a1).f3)) else (some ((ag l0 a1).f1, ([] : List (S46)), false, ([] : List (S41)), (ag l0 a1).f3, a1, 2, (ag l0 a1).f3))) else (none)) else (none)
end
def ak.T1 : Bool × List (List Nat × List Nat) := (true, [([], []), ([], []), ([0, 1], [0, 1]), ([2], [2]), ([3], [3]), ([], []), ([], []), ([5, 6], [5, 6]), ([7], [7]), ([8], [8]), ([4, 9], [4, 9]), ([], []), ([11, 10, 0, 1, 2, 3, 4, 5, 6, 7, 8, 9, 10, 11], [10, 11])])
def ak.B1 : List Nat := [0, 0, 3, 7, 15, 0, 0, 96, 224, 480, 1023, 0, 4095]
theorem ak.tab1 : rtab .any (opsOf Tryz.f35 1) = ak.T1 := by kernel_rfl
theorem ak.bits1 : fJ ak.T1.2 ak.B1 = true := by kernel_rfl
def ak.T3 : Bool × List (List Nat × List Nat) := (true, [([], []), ([], []), ([], []), ([], []), ([2, 3], [2, 3]), ([4], [4]), ([5], [5]), ([6], [6]), ([0, 0], [0]), ([1, 8, 0, 1, 8], [1]), ([7, 9, 0, 1, 2, 3, 4, 5, 6, 7, 8, 9], [7])])
def ak.B3 : List Nat := [0, 0, 0, 0, 12, 28, 60, 124, 1, 259, 1023]
theorem ak.tab3 : rtab .any (opsOf Tryz.f35 3) = ak.T3 := by kernel_rfl
theorem ak.bits3 : fJ ak.T3.2 ak.B3 = true := by kernel_rfl
def ak.T6 : Bool × List (List Nat × List Nat) := (true, [([], []), ([0], [0]), ([], []), ([], []), ([2, 3], [2, 3]), ([4], [4]), ([5], [5]), ([1, 6], [1, 6]), ([0, 1, 2, 3, 4, 5, 6, 7], []), ([8, 7, 7, 0, 1, 2, 3, 4, 5, 6, 7], [7, 8])])
def ak.B6 : List Nat := [0, 1, 0, 0, 12, 28, 60, 127, 255, 511]
theorem ak.tab6 : rtab .any (opsOf Tryz.f35 6) = ak.T6 := by kernel_rfl
theorem ak.bits6 : fJ ak.T6.2 ak.B6 = true := by kernel_rfl
def ak.T11 : Bool × List (List Nat × List Nat) := (true, [([], []), ([], []), ([], []), ([], []), ([2, 3], [2, 3]), ([4], [4]), ([5], [5]), ([6], [6]), ([0, 0], [0]), ([1, 8, 0, 1, 8], [1]), ([7, 9, 0, 1, 2, 3, 4, 5, 6, 7, 8, 9], [7])])
def ak.B11 : List Nat := [0, 0, 0, 0, 12, 28, 60, 124, 1, 259, 1023]
theorem ak.tab11 : rtab .any (opsOf Tryz.f35 11) = ak.T11 := by kernel_rfl
theorem ak.bits11 : fJ ak.T11.2 ak.B11 = true := by kernel_rfl
def ak.T13 : Bool × List (List Nat × List Nat) := (true, [([], []), ([], []), ([], []), ([], []), ([2, 3], [2, 3]), ([4], [4]), ([5], [5]), ([6], [6]), ([0, 0], [0]), ([1, 8, 0, 1, 8], [1]), ([7, 9, 0, 1, 2, 3, 4, 5, 6, 7, 8, 9], [7])])
def ak.B13 : List Nat := [0, 0, 0, 0, 12, 28, 60, 124, 1, 259, 1023]
theorem ak.tab13 : rtab .any (opsOf Tryz.f35 13) = ak.T13 := by kernel_rfl
theorem ak.bits13 : fJ ak.T13.2 ak.B13 = true := by kernel_rfl
theorem ak.calls (k : Nat) : ∀ (A0 : Option Addr) (c0 : Nat) (l0 : List (S46)) (a1 : Int) (a2 : Int) (r1 : ByteArray) (r2 : List (S46)) (r3 : Bool) (r4 : List (S41)) (r5 : Int) (r6 : Int) (r7 : Int) (r8 : Int) (w : World) (hr0 : Kd.C k46 w A0 l0.length l0) (hc0 : l0.length ≤ c0) (h : ak.f k l0 a1 a2 = some (r1, r2, r3, r4, r5, r6, r7, r8)),
  Calls Tryz.prog 35 #[.slice A0 l0.length c0, .int .i64 a1, .int .i64 a2] w fun e w' => ∃ v1_ v3_ : Value, e = .returned (.tuple #[.agg #[.string r1, v1_, .bool r3, v3_, .int .i64 r5], .int .i64 r6, .agg #[.int .i64 r7, .int .i64 r8]]) ∧ Kd.R k46 50 w' w.heap.size (fun _ => True) v1_ r2 ∧ Kd.R k41 25 w' w.heap.size (fun k_ => some k_ ≠ (v1_ : Value).ownBlock) v3_ r4 ∧ Below w.heap.size w w' := by
 induction k using Nat.strongRecOn with
 | _ k ih =>
 intro A0 c0 l0 a1 a2 r1 r2 r3 r4 r5 r6 r7 r8 w hr0 hc0 h
 cases k with
 | zero => exact absurd h (by simp [ak.f])
 | succ k =>
 simp only [ak.f] at h; have hu41 := Tryz.underlying25; have hu26 := Tryz.underlying40; have hu46 := Tryz.underlying50; have HR0 := af.mk hr0; have HC0 := af.mk hc0; clear hr0 hc0; have HB := af.mk (Below.refl w.heap.size w); have H : (if 0 ≤ a1 then (if a1 < (l0.length : Int) then (if ((ag l0 a1).f0) = 1 then (ak.l0 k l0 (wrap64 (a1 + 1)) a2 ((ag l0 a1).f1) ([] : List (S46)) false ((ag l0 a1).f3)) else (some ((ag l0 a1).f1, ([] : List (S46)), false, ([] : List (S41)), (ag l0 a1).f3, a1, 2, (ag l0 a1).f3))) else (none)) else (none)) = some (r1, r2, r3, r4, r5, r6, r7, r8) := h; clear h; replace H := gd_ H; obtain ⟨c4b0, H⟩ := H; replace H := gd_ H; obtain ⟨c5b0, H⟩ := H; replace H := (sp_ H).symm; obtain ⟨c6, H⟩ | ⟨c6, H⟩ := H
 ·
  have c6b0 := beq_eq_false_iff_ne.mpr c6; have c6b1 := bne_iff_ne.mpr c6; simp only [Option.some.injEq, Prod.mk.injEq] at H; obtain ⟨rfl, rfl, rfl, rfl, rfl, rfl, rfl, rfl⟩ := H
  go_enter Tryz.func35, Tryz.ntmps35
  try go_wp2_with (first | ((with_reducible refine aA (N := 6) rfl ?_); refine bx_ (N := 6) (cs := #[.string (⟨#[]⟩ : ByteArray), .slice none 0 0, .bool false, .slice none 0 0, .int .i64 0]) (t := 25) ?_; intro gb251 hg w137 hbox hb; refine df (ah (bl_ HB.1) hb) (hbox) (bz_ (w := w) hg (bl_ HB.1)) (bz_ (w := w) hg (bl_ HB.1)) ?_; clear HB; intro HB BK251 GW251 GE251; clear hb hbox hg) | ((with_reducible refine aA (N := 8) rfl ?_); refine bx_ (N := 8) (cs := #[.int .i64 0, .int .i64 0]) (t := 40) ?_; intro gb252 hg w138 hbox hb; refine gH (bb_ BK251.1 hb) (ah (bl1_ HB.1 GE251.1) hb) (hbox) (bz_ (w := w) hg (bl1_ HB.1 GE251.1)) (bz_ (w := w) hg (bl1_ HB.1 GE251.1)) (nl_ hg BK251.1) (ng_ hg BK251.1) ?_; clear BK251 HB; intro BK251 HB BK252 GW252 GE252 NB251_252 NB252_251; clear hb hbox hg))
  refine fu (bI BK251.1) (bI BK252.1) (bD HB.1) ?_; clear BK251 BK252 HB; intro BK251 BK252 HB; obtain ⟨p253, q253, ad253, e253, hw253_0, hw253_1, hw253_2, hw253_3, hx253_0, hx253_1, hx253_2, hx253_3⟩ := jc HB.1 HR0.1 a1; cases e253; obtain ⟨p254, q254, ad254, e254, hw254_0, hw254_1, hw254_2, hw254_3, hx254_0, hx254_1, hx254_2, hx254_3⟩ := jc HB.1 HR0.1 a1; obtain rfl : ad253 = ad254 := (by injection e254); refine dX (n := 13) (S := fun w' => w'.cell? (ad253.add ((a1).toNat * 4)) = some (.int .i64 ((ag l0 a1).f0)) ∧ w'.cell? ⟨(ad253.add ((a1).toNat * 4)).block, (ad253.add ((a1).toNat * 4)).off + 1, none⟩ = some (.string ((ag l0 a1).f1)) ∧ w'.cell? ⟨(ad253.add ((a1).toNat * 4)).block, (ad253.add ((a1).toNat * 4)).off + 2, none⟩ = some (.int .i64 ((ag l0 a1).f2)) ∧ w'.cell? ⟨(ad253.add ((a1).toNat * 4)).block, (ad253.add ((a1).toNat * 4)).off + 3, none⟩ = some (.int .i64 ((ag l0 a1).f3)) ∧ w'.cell? (ad253.add ((a1).toNat * 4)) = some (.int .i64 ((ag l0 a1).f0)) ∧ w'.cell? ⟨(ad253.add ((a1).toNat * 4)).block, (ad253.add ((a1).toNat * 4)).off + 1, none⟩ = some (.string ((ag l0 a1).f1)) ∧ w'.cell? ⟨(ad253.add ((a1).toNat * 4)).block, (ad253.add ((a1).toNat * 4)).off + 2, none⟩ = some (.int .i64 ((ag l0 a1).f2)) ∧ w'.cell? ⟨(ad253.add ((a1).toNat * 4)).block, (ad253.add ((a1).toNat * 4)).off + 3, none⟩ = some (.int .i64 ((ag l0 a1).f3))) (ds := []) (bm_ 13 0) (by kernel_rfl) rfl (by kernel_rfl) ⟨(ae HB.1 hw253_0), (ae HB.1 hw253_1), (ae HB.1 hw253_2), (ae HB.1 hw253_3), (ae HB.1 hw254_0), (ae HB.1 hw254_1), (ae HB.1 hw254_2), (ae HB.1 hw254_3)⟩ (fun hHeld => ?_); refine cZ ak.tab1 ak.bits1 (fun HT_ HW_ => ?_); generalize w138.drew = w139 at BK251 BK252 HB hx253_0 hx253_1 hx253_2 hx253_3 hx254_0 hx254_1 hx254_2 hx254_3 hHeld ⊢; refine pt_ HT_.1 (i := 0) (N := some 13) (bm_ 13 1) ?_; refine pt_ HT_.1 (i := 1) (N := some 14) (bm_ 13 3) ?_; refine pt_ HT_.1 (i := 2) (N := some 15) (bm_ 13 7) ?_; refine pt_ HT_.1 (i := 3) (N := some 16) (bm_ 13 15) ?_; refine pt_ HT_.1 (i := 5) (N := some 18) (bm_ 13 47) ?_; refine pt_ HT_.1 (i := 6) (N := some 19) (bm_ 13 111) ?_; refine pt_ HT_.1 (i := 7) (N := some 20) (bm_ 13 239) ?_; refine pt_ HT_.1 (i := 8) (N := some 21) (bm_ 13 495) ?_; refine tw_ HT_.1 HW_.1 hHeld (i := 4) (N := some 17) (bm_ 13 511) ?_; refine tw_ HT_.1 HW_.1 hHeld (i := 9) (N := some 22) (bm_ 13 1023) ?_; refine pt_ HT_.1 (i := 10) (N := some 23) (bm_ 13 2047) ?_; refine on_ HT_.1 (i := 11) (N := some 9) (bm_ 13 4095) (fun K hK => ?_); refine bs_ (N := 9) (cs := #[.string (⟨#[]⟩ : ByteArray), .slice none 0 0, .bool false, .slice none 0 0, .int .i64 0]) (t := 25) ?_; intro gb255 hg w140 hbox hb; refine jr (bb_ BK251.1 hb) (bb_ BK252.1 hb) (ah (bl2_ HB.1 GE251.1 GE252.1) hb) (hbox) (bz_ (w := w) hg (bl2_ HB.1 GE251.1 GE252.1)) (bz_ (w := w) hg (bl2_ HB.1 GE251.1 GE252.1)) (nl_ hg BK251.1) (ng_ hg BK251.1) (nl_ hg BK252.1) (ng_ hg BK252.1) ?_; clear BK251 BK252 HB; intro BK251 BK252 HB BK255 GW255 GE255 NB251_255 NB255_251 NB252_255 NB255_252; clear hb hbox hg; refine hK.out _ _ ⟨(ae HB.1 hw253_0), (ae HB.1 hw253_1), (ae HB.1 hw253_2), (ae HB.1 hw253_3), (ae HB.1 hw254_0), (ae HB.1 hw254_1), (ae HB.1 hw254_2), (ae HB.1 hw254_3)⟩ (fun hHeld => ?_); clear hK K; refine nm_ ?_; refine on_ HT_.1 (i := 12) (N := none) (bm_ 13 8191) (fun K hK => ?_); have hs141 : w140.cell? ⟨gb255, 0, none⟩ = some (.string (⟨#[]⟩ : ByteArray)) := (ax BK255.1 0).trans rfl; have hfs141 := aC BK255.1 0; have hns141_0 := NB251_255.1; have hns141_1 := NB252_255.1; have hms141_0 := NB255_251.1; have hms141_1 := NB255_252.1; have hs142 : w140.cell? ⟨gb255, 1, none⟩ = some (.slice none 0 0) := (ax BK255.1 1).trans rfl; have hfs142 := aC BK255.1 1; have hns142_0 := NB251_255.1; have hns142_1 := NB252_255.1; have hms142_0 := NB255_251.1; have hms142_1 := NB255_252.1; have hs143 : w140.cell? ⟨gb255, 2, none⟩ = some (.bool false) := (ax BK255.1 2).trans rfl; have hfs143 := aC BK255.1 2; have hns143_0 := NB251_255.1; have hns143_1 := NB252_255.1; have hms143_0 := NB255_251.1; have hms143_1 := NB255_252.1; have hs144 : w140.cell? ⟨gb255, 3, none⟩ = some (.slice none 0 0) := (ax BK255.1 3).trans rfl; have hfs144 := aC BK255.1 3; have hns144_0 := NB251_255.1; have hns144_1 := NB252_255.1; have hms144_0 := NB255_251.1; have hms144_1 := NB255_252.1; have hs145 : w140.cell? ⟨gb255, 4, none⟩ = some (.int .i64 0) := (ax BK255.1 4).trans rfl; have hfs145 := aC BK255.1 4; have hns145_0 := NB251_255.1; have hns145_1 := NB252_255.1; have hms145_0 := NB255_251.1; have hms145_1 := NB255_252.1; refine sk_ ?_; refine hK.out _ _ ⟨(cf5_ gb255 (fr_ hw253_0 GW255.1) hHeld.1), (cf5_ gb255 (fr_ hw253_1 GW255.1) hHeld.2.1), (cf5_ gb255 (fr_ hw253_2 GW255.1) hHeld.2.2.1), (cf5_ gb255 (fr_ hw253_3 GW255.1) hHeld.2.2.2.1), (cf5_ gb255 (fr_ hw254_0 GW255.1) hHeld.2.2.2.2.1), (cf5_ gb255 (fr_ hw254_1 GW255.1) hHeld.2.2.2.2.2.1), (cf5_ gb255 (fr_ hw254_2 GW255.1) hHeld.2.2.2.2.2.2.1), (cf5_ gb255 (fr_ hw254_3 GW255.1) hHeld.2.2.2.2.2.2.2)⟩ (fun hHeld => ?_); clear hK K; refine gB (eB HT_.1 (by kernel_rfl)) ?_; have p256 : 0 ≤ (a1 : Int) := dt_; have q256 : a1 < (l0.length : Int) := dt_; obtain ⟨ad256, e256, hx256_0, hx256_1, hx256_2, hx256_3⟩ := eZ HR0.1 a1 p256 q256; obtain rfl : ad253 = ad256 := (by injection e256); have hn256_0 : ad253.block ≠ gb255 := Nat.ne_of_lt (Nat.lt_of_lt_of_le (by have := World.block_lt_of_cell? _ _ hx256_0; first | rwa [add_block] at this | exact this) GW255.1); have hn256_1 : ad253.block ≠ gb255 := Nat.ne_of_lt (Nat.lt_of_lt_of_le (by have := World.block_lt_of_cell? _ _ hx256_0; first | rwa [add_block] at this | exact this) GW255.1); have hn256_2 : ad253.block ≠ gb255 := Nat.ne_of_lt (Nat.lt_of_lt_of_le (by have := World.block_lt_of_cell? _ _ hx256_0; first | rwa [add_block] at this | exact this) GW255.1); have hn256_3 : ad253.block ≠ gb255 := Nat.ne_of_lt (Nat.lt_of_lt_of_le (by have := World.block_lt_of_cell? _ _ hx256_0; first | rwa [add_block] at this | exact this) GW255.1); have hn256_4 : ad253.block ≠ gb255 := Nat.ne_of_lt (Nat.lt_of_lt_of_le (by have := World.block_lt_of_cell? _ _ hx256_0; first | rwa [add_block] at this | exact this) GW255.1); replace hx256_0 := ae HB.1 hx256_0; replace hx256_1 := ae HB.1 hx256_1; replace hx256_2 := ae HB.1 hx256_2; replace hx256_3 := ae HB.1 hx256_3; replace hx256_0 := (cell_far (p := ⟨gb255, 0, none⟩) (by first | (rw [add_block]; exact hn256_0) | (show (Addr.add _ _).block ≠ _; rw [add_block]; exact hn256_0) | exact hn256_0) (.string ((ag l0 a1).f1))).trans hx256_0; replace hx256_1 := (cell_far (p := ⟨gb255, 0, none⟩) (by first | (rw [add_block]; exact hn256_0) | (show (Addr.add _ _).block ≠ _; rw [add_block]; exact hn256_0) | exact hn256_0) (.string ((ag l0 a1).f1))).trans hx256_1; replace hx256_2 := (cell_far (p := ⟨gb255, 0, none⟩) (by first | (rw [add_block]; exact hn256_0) | (show (Addr.add _ _).block ≠ _; rw [add_block]; exact hn256_0) | exact hn256_0) (.string ((ag l0 a1).f1))).trans hx256_2; replace hx256_3 := (cell_far (p := ⟨gb255, 0, none⟩) (by first | (rw [add_block]; exact hn256_0) | (show (Addr.add _ _).block ≠ _; rw [add_block]; exact hn256_0) | exact hn256_0) (.string ((ag l0 a1).f1))).trans hx256_3; replace hx256_0 := (cell_far (p := ⟨gb255, 1, none⟩) (by first | (rw [add_block]; exact hn256_1) | (show (Addr.add _ _).block ≠ _; rw [add_block]; exact hn256_1) | exact hn256_1) (.slice none 0 0)).trans hx256_0; replace hx256_1 := (cell_far (p := ⟨gb255, 1, none⟩) (by first | (rw [add_block]; exact hn256_1) | (show (Addr.add _ _).block ≠ _; rw [add_block]; exact hn256_1) | exact hn256_1) (.slice none 0 0)).trans hx256_1; replace hx256_2 := (cell_far (p := ⟨gb255, 1, none⟩) (by first | (rw [add_block]; exact hn256_1) | (show (Addr.add _ _).block ≠ _; rw [add_block]; exact hn256_1) | exact hn256_1) (.slice none 0 0)).trans hx256_2; replace hx256_3 := (cell_far (p := ⟨gb255, 1, none⟩) (by first | (rw [add_block]; exact hn256_1) | (show (Addr.add _ _).block ≠ _; rw [add_block]; exact hn256_1) | exact hn256_1) (.slice none 0 0)).trans hx256_3; replace hx256_0 := (cell_far (p := ⟨gb255, 2, none⟩) (by first | (rw [add_block]; exact hn256_2) | (show (Addr.add _ _).block ≠ _; rw [add_block]; exact hn256_2) | exact hn256_2) (.bool false)).trans hx256_0; replace hx256_1 := (cell_far (p := ⟨gb255, 2, none⟩) (by first | (rw [add_block]; exact hn256_2) | (show (Addr.add _ _).block ≠ _; rw [add_block]; exact hn256_2) | exact hn256_2) (.bool false)).trans hx256_1; replace hx256_2 := (cell_far (p := ⟨gb255, 2, none⟩) (by first | (rw [add_block]; exact hn256_2) | (show (Addr.add _ _).block ≠ _; rw [add_block]; exact hn256_2) | exact hn256_2) (.bool false)).trans hx256_2; replace hx256_3 := (cell_far (p := ⟨gb255, 2, none⟩) (by first | (rw [add_block]; exact hn256_2) | (show (Addr.add _ _).block ≠ _; rw [add_block]; exact hn256_2) | exact hn256_2) (.bool false)).trans hx256_3; replace hx256_0 := (cell_far (p := ⟨gb255, 3, none⟩) (by first | (rw [add_block]; exact hn256_3) | (show (Addr.add _ _).block ≠ _; rw [add_block]; exact hn256_3) | exact hn256_3) (.slice none 0 0)).trans hx256_0; replace hx256_1 := (cell_far (p := ⟨gb255, 3, none⟩) (by first | (rw [add_block]; exact hn256_3) | (show (Addr.add _ _).block ≠ _; rw [add_block]; exact hn256_3) | exact hn256_3) (.slice none 0 0)).trans hx256_1; replace hx256_2 := (cell_far (p := ⟨gb255, 3, none⟩) (by first | (rw [add_block]; exact hn256_3) | (show (Addr.add _ _).block ≠ _; rw [add_block]; exact hn256_3) | exact hn256_3) (.slice none 0 0)).trans hx256_2; replace hx256_3 := (cell_far (p := ⟨gb255, 3, none⟩) (by first | (rw [add_block]; exact hn256_3) | (show (Addr.add _ _).block ≠ _; rw [add_block]; exact hn256_3) | exact hn256_3) (.slice none 0 0)).trans hx256_3; replace hx256_0 := (cell_far (p := ⟨gb255, 4, none⟩) (by first | (rw [add_block]; exact hn256_4) | (show (Addr.add _ _).block ≠ _; rw [add_block]; exact hn256_4) | exact hn256_4) (.int .i64 ((ag l0 a1).f3))).trans hx256_0; replace hx256_1 := (cell_far (p := ⟨gb255, 4, none⟩) (by first | (rw [add_block]; exact hn256_4) | (show (Addr.add _ _).block ≠ _; rw [add_block]; exact hn256_4) | exact hn256_4) (.int .i64 ((ag l0 a1).f3))).trans hx256_1; replace hx256_2 := (cell_far (p := ⟨gb255, 4, none⟩) (by first | (rw [add_block]; exact hn256_4) | (show (Addr.add _ _).block ≠ _; rw [add_block]; exact hn256_4) | exact hn256_4) (.int .i64 ((ag l0 a1).f3))).trans hx256_2; replace hx256_3 := (cell_far (p := ⟨gb255, 4, none⟩) (by first | (rw [add_block]; exact hn256_4) | (show (Addr.add _ _).block ≠ _; rw [add_block]; exact hn256_4) | exact hn256_4) (.int .i64 ((ag l0 a1).f3))).trans hx256_3; clear hn256_0; clear hn256_1; clear hn256_2; clear hn256_3; clear hn256_4; replace p256 := eq_true p256; replace q256 := eq_true q256
  try go_wp2
  have n0_ : af ((((((w140.setCell ⟨gb255, 0, none⟩ (.string ((ag l0 a1).f1))).setCell ⟨gb255, 1, none⟩ (.slice none 0 0)).setCell ⟨gb255, 2, none⟩ (.bool false)).setCell ⟨gb255, 3, none⟩ (.slice none 0 0)).setCell ⟨gb255, 4, none⟩ (.int .i64 ((ag l0 a1).f3))).heap[gb251]? = some (.cells #[.string (⟨#[]⟩ : ByteArray), .slice none 0 0, .bool false, .slice none 0 0, .int .i64 0] 25 (0, 0))) := ⟨iy (bk_ BK251.1) NB251_255.1⟩; have n1_ : af ((((((w140.setCell ⟨gb255, 0, none⟩ (.string ((ag l0 a1).f1))).setCell ⟨gb255, 1, none⟩ (.slice none 0 0)).setCell ⟨gb255, 2, none⟩ (.bool false)).setCell ⟨gb255, 3, none⟩ (.slice none 0 0)).setCell ⟨gb255, 4, none⟩ (.int .i64 ((ag l0 a1).f3))).heap[gb252]? = some (.cells #[.int .i64 0, .int .i64 0] 40 (0, 0))) := ⟨iy (bk_ BK252.1) NB252_255.1⟩; have n2_ : af ((((((w140.setCell ⟨gb255, 0, none⟩ (.string ((ag l0 a1).f1))).setCell ⟨gb255, 1, none⟩ (.slice none 0 0)).setCell ⟨gb255, 2, none⟩ (.bool false)).setCell ⟨gb255, 3, none⟩ (.slice none 0 0)).setCell ⟨gb255, 4, none⟩ (.int .i64 ((ag l0 a1).f3))).heap[gb255]? = some (.cells #[.string ((ag l0 a1).f1), .slice none 0 0, .bool false, .slice none 0 0, .int .i64 ((ag l0 a1).f3)] 25 (0, 0))) := ⟨ik (bk_ BK255.1)⟩; have n3_ : af (Below w.heap.size w (((((w140.setCell ⟨gb255, 0, none⟩ (.string ((ag l0 a1).f1))).setCell ⟨gb255, 1, none⟩ (.slice none 0 0)).setCell ⟨gb255, 2, none⟩ (.bool false)).setCell ⟨gb255, 3, none⟩ (.slice none 0 0)).setCell ⟨gb255, 4, none⟩ (.int .i64 ((ag l0 a1).f3)))) := ⟨bl3_ HB.1 GE251.1 GE252.1 GE255.1⟩; (try clear BK251); (try clear BK252); (try clear BK255); (try clear HB); generalize (((((w140.setCell ⟨gb255, 0, none⟩ (.string ((ag l0 a1).f1))).setCell ⟨gb255, 1, none⟩ (.slice none 0 0)).setCell ⟨gb255, 2, none⟩ (.bool false)).setCell ⟨gb255, 3, none⟩ (.slice none 0 0)).setCell ⟨gb255, 4, none⟩ (.int .i64 ((ag l0 a1).f3))) = w146 at n0_ n1_ n2_ n3_ ⊢; have BK251 := n0_; have BK252 := n1_; have BK255 := n2_; have HB := n3_; clear n0_ n1_ n2_ n3_; refine df (bI BK251.1) (bI BK252.1) (bI BK255.1) (bD HB.1) ?_; clear BK251 BK252 BK255 HB; intro BK251 BK252 BK255 HB; obtain ⟨p257, q257, ad257, e257, hw257_0, hw257_1, hw257_2, hw257_3, hx257_0, hx257_1, hx257_2, hx257_3⟩ := jc HB.1 HR0.1 a1; obtain rfl : ad253 = ad257 := (by injection e257); refine dX (n := 11) (S := fun w' => w'.cell? ⟨gb255, 0, none⟩ = some (.string ((ag l0 a1).f1)) ∧ w'.cell? ⟨gb255, 1, none⟩ = some (.slice none 0 0) ∧ w'.cell? ⟨gb255, 2, none⟩ = some (.bool false) ∧ w'.cell? ⟨gb255, 3, none⟩ = some (.slice none 0 0) ∧ w'.cell? ⟨gb255, 4, none⟩ = some (.int .i64 ((ag l0 a1).f3)) ∧ w'.cell? (ad253.add ((a1).toNat * 4)) = some (.int .i64 ((ag l0 a1).f0)) ∧ w'.cell? ⟨(ad253.add ((a1).toNat * 4)).block, (ad253.add ((a1).toNat * 4)).off + 1, none⟩ = some (.string ((ag l0 a1).f1)) ∧ w'.cell? ⟨(ad253.add ((a1).toNat * 4)).block, (ad253.add ((a1).toNat * 4)).off + 2, none⟩ = some (.int .i64 ((ag l0 a1).f2)) ∧ w'.cell? ⟨(ad253.add ((a1).toNat * 4)).block, (ad253.add ((a1).toNat * 4)).off + 3, none⟩ = some (.int .i64 ((ag l0 a1).f3))) (ds := []) (bm_ 11 0) (by kernel_rfl) rfl (by kernel_rfl) ⟨ce_ BK255.1 0, ce_ BK255.1 1, ce_ BK255.1 2, ce_ BK255.1 3, ce_ BK255.1 4, (ae HB.1 hw257_0), (ae HB.1 hw257_1), (ae HB.1 hw257_2), (ae HB.1 hw257_3)⟩ (fun hHeld => ?_); refine cZ ak.tab3 ak.bits3 (fun HT_ HW_ => ?_); generalize w146.drew = w147 at BK251 BK252 BK255 HB hx257_0 hx257_1 hx257_2 hx257_3 hHeld ⊢; refine pt_ HT_.1 (i := 1) (N := some 31) (bm_ 11 2) ?_; refine pt_ HT_.1 (i := 2) (N := some 32) (bm_ 11 6) ?_; refine pt_ HT_.1 (i := 3) (N := some 33) (bm_ 11 14) ?_; refine pt_ HT_.1 (i := 4) (N := some 34) (bm_ 11 30) ?_; refine pt_ HT_.1 (i := 5) (N := some 35) (bm_ 11 62) ?_; refine tw_ HT_.1 HW_.1 hHeld (i := 0) (N := some 30) (bm_ 11 63) ?_; refine tw_ HT_.1 HW_.1 hHeld (i := 6) (N := some 36) (bm_ 11 127) ?_; refine pt_ HT_.1 (i := 7) (N := some 37) (bm_ 11 255) ?_; refine on_ HT_.1 (i := 8) (N := none) (bm_ 11 511) (fun K hK => ?_); have hs148 : w147.cell? ⟨gb251, 0, none⟩ = some (.string (⟨#[]⟩ : ByteArray)) := (ax BK251.1 0).trans rfl; have hfs148 := aC BK251.1 0; have hns148_1 := NB252_251.1; have hns148_2 := NB255_251.1; have hms148_1 := NB251_252.1; have hms148_2 := NB251_255.1; have hs149 : w147.cell? ⟨gb251, 1, none⟩ = some (.slice none 0 0) := (ax BK251.1 1).trans rfl; have hfs149 := aC BK251.1 1; have hns149_1 := NB252_251.1; have hns149_2 := NB255_251.1; have hms149_1 := NB251_252.1; have hms149_2 := NB251_255.1; have hs150 : w147.cell? ⟨gb251, 2, none⟩ = some (.bool false) := (ax BK251.1 2).trans rfl; have hfs150 := aC BK251.1 2; have hns150_1 := NB252_251.1; have hns150_2 := NB255_251.1; have hms150_1 := NB251_252.1; have hms150_2 := NB251_255.1; have hs151 : w147.cell? ⟨gb251, 3, none⟩ = some (.slice none 0 0) := (ax BK251.1 3).trans rfl; have hfs151 := aC BK251.1 3; have hns151_1 := NB252_251.1; have hns151_2 := NB255_251.1; have hms151_1 := NB251_252.1; have hms151_2 := NB251_255.1; have hs152 : w147.cell? ⟨gb251, 4, none⟩ = some (.int .i64 0) := (ax BK251.1 4).trans rfl; have hfs152 := aC BK251.1 4; have hns152_1 := NB252_251.1; have hns152_2 := NB255_251.1; have hms152_1 := NB251_252.1; have hms152_2 := NB251_255.1; refine sk_ ?_; refine hK.out _ _ ⟨(cf5_ gb251 NB255_251.1 hHeld.1), (cf5_ gb251 NB255_251.1 hHeld.2.1), (cf5_ gb251 NB255_251.1 hHeld.2.2.1), (cf5_ gb251 NB255_251.1 hHeld.2.2.2.1), (cf5_ gb251 NB255_251.1 hHeld.2.2.2.2.1), (cf5_ gb251 (fr_ hw257_0 GW251.1) hHeld.2.2.2.2.2.1), (cf5_ gb251 (fr_ hw257_1 GW251.1) hHeld.2.2.2.2.2.2.1), (cf5_ gb251 (fr_ hw257_2 GW251.1) hHeld.2.2.2.2.2.2.2.1), (cf5_ gb251 (fr_ hw257_3 GW251.1) hHeld.2.2.2.2.2.2.2.2)⟩ (fun hHeld => ?_); clear hK K; refine pt_ HT_.1 (i := 9) (N := some 7) (bm_ 11 1023) ?_; refine on_ HT_.1 (i := 10) (N := none) (bm_ 11 2047) (fun K hK => ?_); have hs153 : w147.cell? ⟨gb252, 0, none⟩ = some (.int .i64 0) := (ax BK252.1 0).trans rfl; have hfs153 := aC BK252.1 0; have hns153_0 := NB251_252.1; have hns153_2 := NB255_252.1; have hms153_0 := NB252_251.1; have hms153_2 := NB252_255.1; have hs154 : w147.cell? ⟨gb252, 1, none⟩ = some (.int .i64 0) := (ax BK252.1 1).trans rfl; have hfs154 := aC BK252.1 1; have hns154_0 := NB251_252.1; have hns154_2 := NB255_252.1; have hms154_0 := NB252_251.1; have hms154_2 := NB252_255.1; refine sk_ ?_; refine hK.out _ _ ⟨(cf2_ gb252 NB255_252.1 hHeld.1), (cf2_ gb252 NB255_252.1 hHeld.2.1), (cf2_ gb252 NB255_252.1 hHeld.2.2.1), (cf2_ gb252 NB255_252.1 hHeld.2.2.2.1), (cf2_ gb252 NB255_252.1 hHeld.2.2.2.2.1), (cf2_ gb252 (fr_ hw257_0 GW252.1) hHeld.2.2.2.2.2.1), (cf2_ gb252 (fr_ hw257_1 GW252.1) hHeld.2.2.2.2.2.2.1), (cf2_ gb252 (fr_ hw257_2 GW252.1) hHeld.2.2.2.2.2.2.2.1), (cf2_ gb252 (fr_ hw257_3 GW252.1) hHeld.2.2.2.2.2.2.2.2)⟩ (fun hHeld => ?_); clear hK K; refine gB (eB HT_.1 (by kernel_rfl)) ?_
  try go_wp2
  refine bodyPost_ret (dO (rs := [.cell 6 25, .tmp 7, .cell 8 40]) rfl (by simp) (.cell gb251 25 #[.string ((ag l0 a1).f1), .slice none 0 0, .bool false, .slice none 0 0, .int .i64 ((ag l0 a1).f3)] (0, 0) _ rfl (by exact dC (ik (bk_ BK251.1)) NB251_252.1) Tryz.underlying25 rfl (by kernel_rfl) (.tmp (.cell gb252 40 #[.int .i64 2, .int .i64 ((ag l0 a1).f3)] (0, 0) _ rfl (by refine aU (cs := #[.int .i64 2, .int .i64 0]) ?_ 1 _ rfl; refine aU (cs := #[.int .i64 0, .int .i64 0]) ?_ 0 _ rfl; exact iy (bk_ BK252.1) NB252_251.1) Tryz.underlying40 rfl (by kernel_rfl) .nil)))) rfl ?_; exact ⟨_, _, er_, ni_, ni_, bl3_ HB.1 GE251.1 GE252.1 GE255.1⟩
 have c6b0 := beq_iff_eq.mpr c6; have c6b1 := bne_eq_false_iff_eq.mpr c6; clear c6; have H' := af.mk H; clear H
 go_enter Tryz.func35, Tryz.ntmps35
 try go_wp2_with (first | ((with_reducible refine aA (N := 6) rfl ?_); refine bx_ (N := 6) (cs := #[.string (⟨#[]⟩ : ByteArray), .slice none 0 0, .bool false, .slice none 0 0, .int .i64 0]) (t := 25) ?_; intro gb251 hg w7 hbox hb; refine df (ah (bl_ HB.1) hb) (hbox) (bz_ (w := w) hg (bl_ HB.1)) (bz_ (w := w) hg (bl_ HB.1)) ?_; clear HB; intro HB BK251 GW251 GE251; clear hb hbox hg) | ((with_reducible refine aA (N := 8) rfl ?_); refine bx_ (N := 8) (cs := #[.int .i64 0, .int .i64 0]) (t := 40) ?_; intro gb252 hg w8 hbox hb; refine gH (bb_ BK251.1 hb) (ah (bl1_ HB.1 GE251.1) hb) (hbox) (bz_ (w := w) hg (bl1_ HB.1 GE251.1)) (bz_ (w := w) hg (bl1_ HB.1 GE251.1)) (nl_ hg BK251.1) (ng_ hg BK251.1) ?_; clear BK251 HB; intro BK251 HB BK252 GW252 GE252 NB251_252 NB252_251; clear hb hbox hg))
 refine fu (bI BK251.1) (bI BK252.1) (bD HB.1) ?_; clear BK251 BK252 HB; intro BK251 BK252 HB; obtain ⟨p253, q253, ad253, e253, hw253_0, hw253_1, hw253_2, hw253_3, hx253_0, hx253_1, hx253_2, hx253_3⟩ := jc HB.1 HR0.1 a1; cases e253; obtain ⟨p254, q254, ad254, e254, hw254_0, hw254_1, hw254_2, hw254_3, hx254_0, hx254_1, hx254_2, hx254_3⟩ := jc HB.1 HR0.1 a1; obtain rfl : ad253 = ad254 := (by injection e254); refine dX (n := 13) (S := fun w' => w'.cell? (ad253.add ((a1).toNat * 4)) = some (.int .i64 ((ag l0 a1).f0)) ∧ w'.cell? ⟨(ad253.add ((a1).toNat * 4)).block, (ad253.add ((a1).toNat * 4)).off + 1, none⟩ = some (.string ((ag l0 a1).f1)) ∧ w'.cell? ⟨(ad253.add ((a1).toNat * 4)).block, (ad253.add ((a1).toNat * 4)).off + 2, none⟩ = some (.int .i64 ((ag l0 a1).f2)) ∧ w'.cell? ⟨(ad253.add ((a1).toNat * 4)).block, (ad253.add ((a1).toNat * 4)).off + 3, none⟩ = some (.int .i64 ((ag l0 a1).f3)) ∧ w'.cell? (ad253.add ((a1).toNat * 4)) = some (.int .i64 ((ag l0 a1).f0)) ∧ w'.cell? ⟨(ad253.add ((a1).toNat * 4)).block, (ad253.add ((a1).toNat * 4)).off + 1, none⟩ = some (.string ((ag l0 a1).f1)) ∧ w'.cell? ⟨(ad253.add ((a1).toNat * 4)).block, (ad253.add ((a1).toNat * 4)).off + 2, none⟩ = some (.int .i64 ((ag l0 a1).f2)) ∧ w'.cell? ⟨(ad253.add ((a1).toNat * 4)).block, (ad253.add ((a1).toNat * 4)).off + 3, none⟩ = some (.int .i64 ((ag l0 a1).f3))) (ds := []) (bm_ 13 0) (by kernel_rfl) rfl (by kernel_rfl) ⟨(ae HB.1 hw253_0), (ae HB.1 hw253_1), (ae HB.1 hw253_2), (ae HB.1 hw253_3), (ae HB.1 hw254_0), (ae HB.1 hw254_1), (ae HB.1 hw254_2), (ae HB.1 hw254_3)⟩ (fun hHeld => ?_); refine cZ ak.tab1 ak.bits1 (fun HT_ HW_ => ?_); generalize w8.drew = w9 at BK251 BK252 HB hx253_0 hx253_1 hx253_2 hx253_3 hx254_0 hx254_1 hx254_2 hx254_3 hHeld ⊢; refine pt_ HT_.1 (i := 0) (N := some 13) (bm_ 13 1) ?_; refine pt_ HT_.1 (i := 1) (N := some 14) (bm_ 13 3) ?_; refine pt_ HT_.1 (i := 2) (N := some 15) (bm_ 13 7) ?_; refine pt_ HT_.1 (i := 3) (N := some 16) (bm_ 13 15) ?_; refine pt_ HT_.1 (i := 5) (N := some 18) (bm_ 13 47) ?_; refine pt_ HT_.1 (i := 6) (N := some 19) (bm_ 13 111) ?_; refine pt_ HT_.1 (i := 7) (N := some 20) (bm_ 13 239) ?_; refine pt_ HT_.1 (i := 8) (N := some 21) (bm_ 13 495) ?_; refine tw_ HT_.1 HW_.1 hHeld (i := 4) (N := some 17) (bm_ 13 511) ?_; refine tw_ HT_.1 HW_.1 hHeld (i := 9) (N := some 22) (bm_ 13 1023) ?_; refine pt_ HT_.1 (i := 10) (N := some 23) (bm_ 13 2047) ?_; refine on_ HT_.1 (i := 11) (N := some 9) (bm_ 13 4095) (fun K hK => ?_); refine bs_ (N := 9) (cs := #[.string (⟨#[]⟩ : ByteArray), .slice none 0 0, .bool false, .slice none 0 0, .int .i64 0]) (t := 25) ?_; intro gb255 hg w10 hbox hb; refine jr (bb_ BK251.1 hb) (bb_ BK252.1 hb) (ah (bl2_ HB.1 GE251.1 GE252.1) hb) (hbox) (bz_ (w := w) hg (bl2_ HB.1 GE251.1 GE252.1)) (bz_ (w := w) hg (bl2_ HB.1 GE251.1 GE252.1)) (nl_ hg BK251.1) (ng_ hg BK251.1) (nl_ hg BK252.1) (ng_ hg BK252.1) ?_; clear BK251 BK252 HB; intro BK251 BK252 HB BK255 GW255 GE255 NB251_255 NB255_251 NB252_255 NB255_252; clear hb hbox hg; refine hK.out _ _ ⟨(ae HB.1 hw253_0), (ae HB.1 hw253_1), (ae HB.1 hw253_2), (ae HB.1 hw253_3), (ae HB.1 hw254_0), (ae HB.1 hw254_1), (ae HB.1 hw254_2), (ae HB.1 hw254_3)⟩ (fun hHeld => ?_); clear hK K; refine nm_ ?_; refine on_ HT_.1 (i := 12) (N := none) (bm_ 13 8191) (fun K hK => ?_); have hs11 : w10.cell? ⟨gb255, 0, none⟩ = some (.string (⟨#[]⟩ : ByteArray)) := (ax BK255.1 0).trans rfl; have hfs11 := aC BK255.1 0; have hns11_0 := NB251_255.1; have hns11_1 := NB252_255.1; have hms11_0 := NB255_251.1; have hms11_1 := NB255_252.1; have hs12 : w10.cell? ⟨gb255, 1, none⟩ = some (.slice none 0 0) := (ax BK255.1 1).trans rfl; have hfs12 := aC BK255.1 1; have hns12_0 := NB251_255.1; have hns12_1 := NB252_255.1; have hms12_0 := NB255_251.1; have hms12_1 := NB255_252.1; have hs13 : w10.cell? ⟨gb255, 2, none⟩ = some (.bool false) := (ax BK255.1 2).trans rfl; have hfs13 := aC BK255.1 2; have hns13_0 := NB251_255.1; have hns13_1 := NB252_255.1; have hms13_0 := NB255_251.1; have hms13_1 := NB255_252.1; have hs14 : w10.cell? ⟨gb255, 3, none⟩ = some (.slice none 0 0) := (ax BK255.1 3).trans rfl; have hfs14 := aC BK255.1 3; have hns14_0 := NB251_255.1; have hns14_1 := NB252_255.1; have hms14_0 := NB255_251.1; have hms14_1 := NB255_252.1; have hs15 : w10.cell? ⟨gb255, 4, none⟩ = some (.int .i64 0) := (ax BK255.1 4).trans rfl; have hfs15 := aC BK255.1 4; have hns15_0 := NB251_255.1; have hns15_1 := NB252_255.1; have hms15_0 := NB255_251.1; have hms15_1 := NB255_252.1; refine sk_ ?_; refine hK.out _ _ ⟨(cf5_ gb255 (fr_ hw253_0 GW255.1) hHeld.1), (cf5_ gb255 (fr_ hw253_1 GW255.1) hHeld.2.1), (cf5_ gb255 (fr_ hw253_2 GW255.1) hHeld.2.2.1), (cf5_ gb255 (fr_ hw253_3 GW255.1) hHeld.2.2.2.1), (cf5_ gb255 (fr_ hw254_0 GW255.1) hHeld.2.2.2.2.1), (cf5_ gb255 (fr_ hw254_1 GW255.1) hHeld.2.2.2.2.2.1), (cf5_ gb255 (fr_ hw254_2 GW255.1) hHeld.2.2.2.2.2.2.1), (cf5_ gb255 (fr_ hw254_3 GW255.1) hHeld.2.2.2.2.2.2.2)⟩ (fun hHeld => ?_); clear hK K; refine gB (eB HT_.1 (by kernel_rfl)) ?_; have p256 : 0 ≤ (a1 : Int) := dt_; have q256 : a1 < (l0.length : Int) := dt_; obtain ⟨ad256, e256, hx256_0, hx256_1, hx256_2, hx256_3⟩ := eZ HR0.1 a1 p256 q256; obtain rfl : ad253 = ad256 := (by injection e256); have hn256_0 : ad253.block ≠ gb255 := Nat.ne_of_lt (Nat.lt_of_lt_of_le (by have := World.block_lt_of_cell? _ _ hx256_0; first | rwa [add_block] at this | exact this) GW255.1); have hn256_1 : ad253.block ≠ gb255 := Nat.ne_of_lt (Nat.lt_of_lt_of_le (by have := World.block_lt_of_cell? _ _ hx256_0; first | rwa [add_block] at this | exact this) GW255.1); have hn256_2 : ad253.block ≠ gb255 := Nat.ne_of_lt (Nat.lt_of_lt_of_le (by have := World.block_lt_of_cell? _ _ hx256_0; first | rwa [add_block] at this | exact this) GW255.1); have hn256_3 : ad253.block ≠ gb255 := Nat.ne_of_lt (Nat.lt_of_lt_of_le (by have := World.block_lt_of_cell? _ _ hx256_0; first | rwa [add_block] at this | exact this) GW255.1); have hn256_4 : ad253.block ≠ gb255 := Nat.ne_of_lt (Nat.lt_of_lt_of_le (by have := World.block_lt_of_cell? _ _ hx256_0; first | rwa [add_block] at this | exact this) GW255.1); replace hx256_0 := ae HB.1 hx256_0; replace hx256_1 := ae HB.1 hx256_1; replace hx256_2 := ae HB.1 hx256_2; replace hx256_3 := ae HB.1 hx256_3; replace hx256_0 := (cell_far (p := ⟨gb255, 0, none⟩) (by first | (rw [add_block]; exact hn256_0) | (show (Addr.add _ _).block ≠ _; rw [add_block]; exact hn256_0) | exact hn256_0) (.string ((ag l0 a1).f1))).trans hx256_0; replace hx256_1 := (cell_far (p := ⟨gb255, 0, none⟩) (by first | (rw [add_block]; exact hn256_0) | (show (Addr.add _ _).block ≠ _; rw [add_block]; exact hn256_0) | exact hn256_0) (.string ((ag l0 a1).f1))).trans hx256_1; replace hx256_2 := (cell_far (p := ⟨gb255, 0, none⟩) (by first | (rw [add_block]; exact hn256_0) | (show (Addr.add _ _).block ≠ _; rw [add_block]; exact hn256_0) | exact hn256_0) (.string ((ag l0 a1).f1))).trans hx256_2; replace hx256_3 := (cell_far (p := ⟨gb255, 0, none⟩) (by first | (rw [add_block]; exact hn256_0) | (show (Addr.add _ _).block ≠ _; rw [add_block]; exact hn256_0) | exact hn256_0) (.string ((ag l0 a1).f1))).trans hx256_3; replace hx256_0 := (cell_far (p := ⟨gb255, 1, none⟩) (by first | (rw [add_block]; exact hn256_1) | (show (Addr.add _ _).block ≠ _; rw [add_block]; exact hn256_1) | exact hn256_1) (.slice none 0 0)).trans hx256_0; replace hx256_1 := (cell_far (p := ⟨gb255, 1, none⟩) (by first | (rw [add_block]; exact hn256_1) | (show (Addr.add _ _).block ≠ _; rw [add_block]; exact hn256_1) | exact hn256_1) (.slice none 0 0)).trans hx256_1; replace hx256_2 := (cell_far (p := ⟨gb255, 1, none⟩) (by first | (rw [add_block]; exact hn256_1) | (show (Addr.add _ _).block ≠ _; rw [add_block]; exact hn256_1) | exact hn256_1) (.slice none 0 0)).trans hx256_2; replace hx256_3 := (cell_far (p := ⟨gb255, 1, none⟩) (by first | (rw [add_block]; exact hn256_1) | (show (Addr.add _ _).block ≠ _; rw [add_block]; exact hn256_1) | exact hn256_1) (.slice none 0 0)).trans hx256_3; replace hx256_0 := (cell_far (p := ⟨gb255, 2, none⟩) (by first | (rw [add_block]; exact hn256_2) | (show (Addr.add _ _).block ≠ _; rw [add_block]; exact hn256_2) | exact hn256_2) (.bool false)).trans hx256_0; replace hx256_1 := (cell_far (p := ⟨gb255, 2, none⟩) (by first | (rw [add_block]; exact hn256_2) | (show (Addr.add _ _).block ≠ _; rw [add_block]; exact hn256_2) | exact hn256_2) (.bool false)).trans hx256_1; replace hx256_2 := (cell_far (p := ⟨gb255, 2, none⟩) (by first | (rw [add_block]; exact hn256_2) | (show (Addr.add _ _).block ≠ _; rw [add_block]; exact hn256_2) | exact hn256_2) (.bool false)).trans hx256_2; replace hx256_3 := (cell_far (p := ⟨gb255, 2, none⟩) (by first | (rw [add_block]; exact hn256_2) | (show (Addr.add _ _).block ≠ _; rw [add_block]; exact hn256_2) | exact hn256_2) (.bool false)).trans hx256_3; replace hx256_0 := (cell_far (p := ⟨gb255, 3, none⟩) (by first | (rw [add_block]; exact hn256_3) | (show (Addr.add _ _).block ≠ _; rw [add_block]; exact hn256_3) | exact hn256_3) (.slice none 0 0)).trans hx256_0; replace hx256_1 := (cell_far (p := ⟨gb255, 3, none⟩) (by first | (rw [add_block]; exact hn256_3) | (show (Addr.add _ _).block ≠ _; rw [add_block]; exact hn256_3) | exact hn256_3) (.slice none 0 0)).trans hx256_1; replace hx256_2 := (cell_far (p := ⟨gb255, 3, none⟩) (by first | (rw [add_block]; exact hn256_3) | (show (Addr.add _ _).block ≠ _; rw [add_block]; exact hn256_3) | exact hn256_3) (.slice none 0 0)).trans hx256_2; replace hx256_3 := (cell_far (p := ⟨gb255, 3, none⟩) (by first | (rw [add_block]; exact hn256_3) | (show (Addr.add _ _).block ≠ _; rw [add_block]; exact hn256_3) | exact hn256_3) (.slice none 0 0)).trans hx256_3; replace hx256_0 := (cell_far (p := ⟨gb255, 4, none⟩) (by first | (rw [add_block]; exact hn256_4) | (show (Addr.add _ _).block ≠ _; rw [add_block]; exact hn256_4) | exact hn256_4) (.int .i64 ((ag l0 a1).f3))).trans hx256_0; replace hx256_1 := (cell_far (p := ⟨gb255, 4, none⟩) (by first | (rw [add_block]; exact hn256_4) | (show (Addr.add _ _).block ≠ _; rw [add_block]; exact hn256_4) | exact hn256_4) (.int .i64 ((ag l0 a1).f3))).trans hx256_1; replace hx256_2 := (cell_far (p := ⟨gb255, 4, none⟩) (by first | (rw [add_block]; exact hn256_4) | (show (Addr.add _ _).block ≠ _; rw [add_block]; exact hn256_4) | exact hn256_4) (.int .i64 ((ag l0 a1).f3))).trans hx256_2; replace hx256_3 := (cell_far (p := ⟨gb255, 4, none⟩) (by first | (rw [add_block]; exact hn256_4) | (show (Addr.add _ _).block ≠ _; rw [add_block]; exact hn256_4) | exact hn256_4) (.int .i64 ((ag l0 a1).f3))).trans hx256_3; clear hn256_0; clear hn256_1; clear hn256_2; clear hn256_3; clear hn256_4; replace p256 := eq_true p256; replace q256 := eq_true q256
 try go_wp2
 go_loopg [1] k (fun kq v1 w' => ∃ (x1_1 : Int) (x256001_1 : List (S46)) (u256001 : Value), v1 = .int .i64 x1_1 ∧ af (ak.l0 kq l0 x1_1 a2 ((ag l0 a1).f1) x256001_1 false ((ag l0 a1).f3) = some (r1, r2, r3, r4, r5, r6, r7, r8)) ∧ af (kq ≤ k) ∧ af (Kd.R k46 50 w' w.heap.size (fun _ => True) u256001 x256001_1) ∧ af (w'.heap[gb251]? = some (.cells #[.string (⟨#[]⟩ : ByteArray), (.slice none 0 0), .bool false, (.slice none 0 0), .int .i64 0] 25 (0, 0))) ∧ af (w'.heap[gb252]? = some (.cells #[.int .i64 0, .int .i64 0] 40 (0, 0))) ∧ af (w'.heap[gb255]? = some (.cells #[.string ((ag l0 a1).f1), u256001, .bool false, (.slice none 0 0), .int .i64 ((ag l0 a1).f3)] 25 (0, 0))) ∧ af (Below w.heap.size w w'))
 case atStart => exact ⟨(wrap64 (a1 + 1)), (([] : List (S46))), (.slice none 0 0), sr_, H', ⟨Nat.le_refl _⟩, ⟨ni_⟩, ⟨iy (bk_ BK251.1) NB251_255.1⟩, ⟨iy (bk_ BK252.1) NB252_255.1⟩, ⟨ik (bk_ BK255.1)⟩, ⟨bl3_ HB.1 GE251.1 GE252.1 GE255.1⟩⟩
 case round =>
  clear H'; (try clear c4); (try clear c4b0); (try clear c5); (try clear c5b0); (try clear c6); (try clear c6b0); (try clear c6b1); (try clear hx253_0); (try clear hx253_1); (try clear hx253_2); (try clear hx253_3); (try clear hx254_0); (try clear hx254_1); (try clear hx254_2); (try clear hx254_3); (try clear hx256_0); (try clear hx256_1); (try clear hx256_2); (try clear hx256_3); (try clear p253); (try clear p254); (try clear p256); (try clear q253); (try clear q254); (try clear q256); obtain ⟨x1_1, x256001_1, u256001, rfl, HA, HK1, HO_256001, BK251, BK252, BK255, HB⟩ := hrel; obtain _ | k1 := gk
  · exact absurd HA.1 (by simp [ak.l0])
  have H := HA.1; clear HA; simp only [ak.l0] at H; replace H := gd_ H; obtain ⟨c16b0, H⟩ := H; replace H := gd_ H; obtain ⟨c17b0, H⟩ := H; replace H := bn_ H; obtain ⟨t259, A18, H⟩ := H; (try dsimp only at H); replace H := sb_ H; obtain ⟨rfl, H⟩ | ⟨rfl, H⟩ := H
  ·
   replace H := gp_ H; obtain ⟨c20, H⟩ := H; have LMc20 := af.mk c20; clear c20; obtain ⟨y261, hy261⟩ : ∃ y_ : List (S46), y_ = (x256001_1 ++ [(⟨(ag l0 x1_1).f0, (ag l0 x1_1).f1, (ag l0 x1_1).f2, (ag l0 x1_1).f3⟩ : S46)]) := ⟨_, rfl⟩; replace H : (ak.l0 k1 l0 (wrap64 (x1_1 + 1)) a2 ((ag l0 a1).f1) y261 false ((ag l0 a1).f3)) = some (r1, r2, r3, r4, r5, r6, r7, r8) := by first | (rw [hy261]; with_reducible exact H) | (have H2_ := (Option.bind_some _ _).symm.trans H; rw [hy261]; with_reducible exact H2_) | (have H2_ := (Option.bind_some _ _).symm.trans H; with_reducible exact H2_) | with_reducible exact H | (rw [hy261]; exact H) | exact H
   have Ny261 := af.mk hy261; clear hy261; have H' := af.mk H; clear H; have p258 : 0 ≤ (x1_1 : Int) := dt_; have q258 : x1_1 < (l0.length : Int) := dt_; obtain ⟨ad258, e258, hx258_0, hx258_1, hx258_2, hx258_3⟩ := eZ HR0.1 x1_1 p258 q258; obtain rfl : ad253 = ad258 := (by injection e258); replace hx258_0 := ae HB.1 hx258_0; replace hx258_1 := ae HB.1 hx258_1; replace hx258_2 := ae HB.1 hx258_2; replace hx258_3 := ae HB.1 hx258_3; replace p258 := eq_true p258; replace q258 := eq_true q258
   try go_wp2_with (first | ((with_reducible refine aj (f := 46) rfl ?_); refine gk_ (some 44) Tryz.func46 (dm.calls ((ag l0 x1_1).f0) ((ag l0 x1_1).f1) ((ag l0 x1_1).f2) ((ag l0 x1_1).f3) true _ A18.1) ?_; rintro e w21 ⟨rfl, hb⟩; refine ⟨_, rfl, ?_⟩; refine gm (Kd.aW (rR_ HO_256001.1) hb) (bb_ BK251.1 hb) (bb_ BK252.1 hb) (bb_ BK255.1 hb) (ah (bl3_ HB.1 GE251.1 GE252.1 GE255.1) hb) ?_; clear hb HO_256001 BK251 BK252 BK255 HB; intro HO_256001 BK251 BK252 BK255 HB))
   refine gm (Kd.dU HO_256001.1) (bI BK251.1) (bI BK252.1) (bI BK255.1) (bD HB.1) ?_; clear HO_256001 BK251 BK252 BK255 HB; intro HO_256001 BK251 BK252 BK255 HB; obtain ⟨p260, q260, ad260, e260, hw260_0, hw260_1, hw260_2, hw260_3, hx260_0, hx260_1, hx260_2, hx260_3⟩ := jc HB.1 HR0.1 x1_1; obtain rfl : ad253 = ad260 := (by injection e260); refine dX (n := 10) (S := fun w' => w'.cell? ⟨gb255, 0, none⟩ = some (.string ((ag l0 a1).f1)) ∧ w'.cell? ⟨gb255, 1, none⟩ = some (u256001) ∧ w'.cell? ⟨gb255, 2, none⟩ = some (.bool false) ∧ w'.cell? ⟨gb255, 3, none⟩ = some (.slice none 0 0) ∧ w'.cell? ⟨gb255, 4, none⟩ = some (.int .i64 ((ag l0 a1).f3)) ∧ w'.cell? (ad253.add ((x1_1).toNat * 4)) = some (.int .i64 ((ag l0 x1_1).f0)) ∧ w'.cell? ⟨(ad253.add ((x1_1).toNat * 4)).block, (ad253.add ((x1_1).toNat * 4)).off + 1, none⟩ = some (.string ((ag l0 x1_1).f1)) ∧ w'.cell? ⟨(ad253.add ((x1_1).toNat * 4)).block, (ad253.add ((x1_1).toNat * 4)).off + 2, none⟩ = some (.int .i64 ((ag l0 x1_1).f2)) ∧ w'.cell? ⟨(ad253.add ((x1_1).toNat * 4)).block, (ad253.add ((x1_1).toNat * 4)).off + 3, none⟩ = some (.int .i64 ((ag l0 x1_1).f3))) (ds := [9]) (bm_ 10 0) (by kernel_rfl) rfl (by kernel_rfl) ⟨ce_ BK255.1 0, ce_ BK255.1 1, ce_ BK255.1 2, ce_ BK255.1 3, ce_ BK255.1 4, (ae HB.1 hw260_0), (ae HB.1 hw260_1), (ae HB.1 hw260_2), (ae HB.1 hw260_3)⟩ (fun hHeld => ?_); refine cZ ak.tab6 ak.bits6 (fun HT_ HW_ => ?_); generalize w21.drew = w22 at HO_256001 BK251 BK252 BK255 HB hx260_0 hx260_1 hx260_2 hx260_3 hHeld ⊢; refine pt_ HT_.1 (i := 0) (N := some 45) (bm_ 10 1) ?_; refine pt_ HT_.1 (i := 2) (N := some 47) (bm_ 10 5) ?_; refine pt_ HT_.1 (i := 3) (N := some 48) (bm_ 10 13) ?_; refine pt_ HT_.1 (i := 4) (N := some 49) (bm_ 10 29) ?_; refine tw_ HT_.1 HW_.1 hHeld (i := 1) (N := some 46) (bm_ 10 31) ?_; refine tw_ HT_.1 HW_.1 hHeld (i := 5) (N := some 50) (bm_ 10 63) ?_; refine on_ HT_.1 (i := 6) (N := some 51) (bm_ 10 127) (fun K hK => ?_); refine value_ (w1 := ?_) (v := ?_) (by rfl) rfl ?_ ?_
   rotate_left 2
   ·
    go_simp
    constructor
    ·
     rfl
    rfl
   refine hK.out _ _ ⟨ce_ (fH BK255.1 _) 0, ce_ (fH BK255.1 _) 1, ce_ (fH BK255.1 _) 2, ce_ (fH BK255.1 _) 3, ce_ (fH BK255.1 _) 4, al_ ((ae HB.1 hw260_0)), al_ ((ae HB.1 hw260_1)), al_ ((ae HB.1 hw260_2)), al_ ((ae HB.1 hw260_3))⟩ (fun hHeld => ?_); clear hK K; refine nm_ ?_; refine on_ HT_.1 (i := 7) (N := some 52) (bm_ 10 255) (fun K hK => ?_); refine Kd.kw k46 (w0 := w) w.heap.size (by rfl) (.tmp 46) (.tmp 51) 22 50 (.agg #[(.int .i64 0), (.string ⟨#[]⟩), (.int .i64 0), (.int .i64 0)]) 40 rfl Tryz.underlying22 kK rfl (by decide) (by omega) u256001 x256001_1 (⟨(ag l0 x1_1).f0, (ag l0 x1_1).f1, (ag l0 x1_1).f2, (ag l0 x1_1).f3⟩ : S46) [.int .i64 ((ag l0 x1_1).f0), .string ((ag l0 x1_1).f1), .int .i64 ((ag l0 x1_1).f2), .int .i64 ((ag l0 x1_1).f3)] (fun _ => True) (fun _ => False) rfl rfl ?aP (fun _ hk => hk.elim) ?aF ?aO ?aB ?aS ?aL ?_
   (case aP => exact jD _ _ _ (⟨(ag l0 x1_1).f0, (ag l0 x1_1).f1, (ag l0 x1_1).f2, (ag l0 x1_1).f3⟩ : S46))
   (case aB => exact (bl3_ HB.1 GE251.1 GE252.1 GE255.1))
   (case aF => exact (fun _ _ => trivial))
   (case aO => exact (rR_ HO_256001.1))
   (case aS => exact (bH (bl3_ HB.1 GE251.1 GE252.1 GE255.1)))
   (case aL => have := LMc20.1; omega)
   intro v262 w23 ho hb hg hat; rw [← Ny261.1] at ho; refine gm (bX (g := gb251) (o := .cells #[.string (⟨#[]⟩ : ByteArray), .slice none 0 0, .bool false, .slice none 0 0, .int .i64 0] 25 (0, 0)) (bk_ BK251.1) hg (Kd.R_ne HO_256001.1 BK251.1 (by decide))) (bX (g := gb252) (o := .cells #[.int .i64 0, .int .i64 0] 40 (0, 0)) (bk_ BK252.1) hg (Kd.R_ne HO_256001.1 BK252.1 (by decide))) (bX (g := gb255) (o := .cells #[.string ((ag l0 a1).f1), u256001, .bool false, .slice none 0 0, .int .i64 ((ag l0 a1).f3)] 25 (0, 0)) (bk_ BK255.1) hg (Kd.R_ne HO_256001.1 BK255.1 (by decide))) (hb) (ho) ?_; clear BK251 BK252 BK255 HB HO_256001; intro BK251 BK252 BK255 HB HO263; clear ho hb hg hat; obtain ⟨Ao24, co24, eo24⟩ := Kd.cO HO263.1
   (first | subst eo24 | (injection eo24 with f1_ f2_ f3_; have f4_ := f1_.symm; have f5_ := f3_.symm; clear f1_ f2_ f3_; subst f4_; subst f5_))
   refine hK.out _ _ ⟨ce_ BK255.1 0, ce_ BK255.1 1, ce_ BK255.1 2, ce_ BK255.1 3, ce_ BK255.1 4, (ae HB.1 hw260_0), (ae HB.1 hw260_1), (ae HB.1 hw260_2), (ae HB.1 hw260_3)⟩ (fun hHeld => ?_); clear hK K; refine nm_ ?_; refine pt_ HT_.1 (i := 8) (N := some 53) (bm_ 10 511) ?_; refine last_ (i := 9) (N := none) (bm_ 10 1023) rfl rfl (one_of HT_.1 (by kernel_rfl)) (by decide) (fun K hK => ?_); have hs25 : w23.cell? ⟨gb255, 1, none⟩ = some (u256001) := (ax BK255.1 1).trans rfl; have hfs25 := aC BK255.1 1; have hns25_0 := NB251_255.1; have hns25_1 := NB252_255.1; have hms25_0 := NB255_251.1; have hms25_1 := NB255_252.1; refine sk_ ?_; refine hK.out _ _ ?_; clear hK K; refine gB (eB HT_.1 (by kernel_rfl)) ?_
   try go_wp2
   go_roundg k1
   case measure => have := HK1.1; omega
   case rel => exact ⟨(wrap64 (x1_1 + 1)), (y261), (.slice Ao24 y261.length co24), sr_, H', ⟨om_ HK1.1⟩, ⟨rR_ (Kd.aQ (rf1_ gb255 (Kd.bu HO263.1 BK255.1 (by decide))) (fun _ hk => trivial))⟩, ⟨fO (bk_ BK251.1) NB251_255.1⟩, ⟨fO (bk_ BK252.1) NB252_255.1⟩, ⟨by refine aU (cs := #[.string ((ag l0 a1).f1), u256001, .bool false, .slice none 0 0, .int .i64 ((ag l0 a1).f3)]) ?_ 1 _ rfl; exact bk_ BK255.1⟩, ⟨bl3_ HB.1 GE251.1 GE252.1 GE255.1⟩⟩
  replace H := bn_ H; obtain ⟨t265, A26, H⟩ := H; (try dsimp only at H); replace H := sb_ H; obtain ⟨rfl, H⟩ | ⟨rfl, H⟩ := H
  ·
   simp only [Option.some.injEq, Prod.mk.injEq] at H; obtain ⟨rfl, rfl, rfl, rfl, rfl, rfl, rfl, rfl⟩ := H; have p258 : 0 ≤ (x1_1 : Int) := dt_; have q258 : x1_1 < (l0.length : Int) := dt_; obtain ⟨ad258, e258, hx258_0, hx258_1, hx258_2, hx258_3⟩ := eZ HR0.1 x1_1 p258 q258; obtain rfl : ad253 = ad258 := (by injection e258); replace hx258_0 := ae HB.1 hx258_0; replace hx258_1 := ae HB.1 hx258_1; replace hx258_2 := ae HB.1 hx258_2; replace hx258_3 := ae HB.1 hx258_3; replace p258 := eq_true p258; replace q258 := eq_true q258
   go_wp2_with (first | ((with_reducible refine aj (f := 46) rfl ?_); refine gk_ (some 44) Tryz.func46 (dm.calls ((ag l0 x1_1).f0) ((ag l0 x1_1).f1) ((ag l0 x1_1).f2) ((ag l0 x1_1).f3) false _ A18.1) ?_; rintro e w28 ⟨rfl, hb⟩; refine ⟨_, rfl, ?_⟩; refine gm (Kd.aW (rR_ HO_256001.1) hb) (bb_ BK251.1 hb) (bb_ BK252.1 hb) (bb_ BK255.1 hb) (ah (bl3_ HB.1 GE251.1 GE252.1 GE255.1) hb) ?_; clear hb HO_256001 BK251 BK252 BK255 HB; intro HO_256001 BK251 BK252 BK255 HB; have p264 : 0 ≤ (x1_1 : Int) := dt_; have q264 : x1_1 < (l0.length : Int) := dt_; obtain ⟨ad264, e264, hx264_0, hx264_1, hx264_2, hx264_3⟩ := eZ HR0.1 x1_1 p264 q264; obtain rfl : ad253 = ad264 := (by injection e264); replace hx264_0 := ae HB.1 hx264_0; replace hx264_1 := ae HB.1 hx264_1; replace hx264_2 := ae HB.1 hx264_2; replace hx264_3 := ae HB.1 hx264_3; replace p264 := eq_true p264; replace q264 := eq_true q264) | ((with_reducible refine aj (f := 50) rfl ?_); refine gk_ (some 60) Tryz.func50 (bg.calls ((ag l0 x1_1).f0) ((ag l0 x1_1).f1) ((ag l0 x1_1).f2) ((ag l0 x1_1).f3) (⟨#[59]⟩ : ByteArray) true _ A26.1) ?_; rintro e w29 ⟨rfl, hb⟩; refine ⟨_, rfl, ?_⟩; refine gm (Kd.aW (rR_ HO_256001.1) hb) (bb_ BK251.1 hb) (bb_ BK252.1 hb) (bb_ BK255.1 hb) (ah (bl3_ HB.1 GE251.1 GE252.1 GE255.1) hb) ?_; clear hb HO_256001 BK251 BK252 BK255 HB; intro HO_256001 BK251 BK252 BK255 HB; have hnb30 := NB255_251.1; have hnc30 := NB251_255.1; have hnb31 := NB255_252.1; have hnc31 := NB252_255.1; obtain ⟨hcz32_0, hcz32_1, hcz32_2, hcz32_3, hcz32_4, hfz32_0, hfz32_1, hfz32_2, hfz32_3, hfz32_4⟩ := cq5_ BK255.1; have hnb33 := NB251_252.1; have hnc33 := NB252_251.1; obtain ⟨hcz34_0, hcz34_1, hcz34_2, hcz34_3, hcz34_4, hfz34_0, hfz34_1, hfz34_2, hfz34_3, hfz34_4⟩ := cq5_ BK251.1; obtain ⟨Ao35, co35, eo35⟩ := Kd.cO HO_256001.1; subst eo35; obtain ⟨hcz36_0, hcz36_1, hfz36_0, hfz36_1⟩ := cq2_ BK252.1))
   refine bodyPost_ret (dO (rs := [.cell 6 25, .tmp 7, .cell 8 40]) rfl (by simp) (.cell gb251 25 #[.string ((ag l0 a1).f1), .slice Ao35 x256001_1.length co35, .bool false, .slice none 0 0, .int .i64 ((ag l0 a1).f3)] (0, 0) _ rfl (by exact dC (ik (bk_ BK251.1)) NB251_252.1) Tryz.underlying25 rfl (by kernel_rfl) (.tmp (.cell gb252 40 #[.int .i64 0, .int .i64 0] (0, 0) _ rfl (by refine aU (cs := #[.int .i64 0, .int .i64 0]) ?_ 1 _ rfl; refine aU (cs := #[.int .i64 0, .int .i64 0]) ?_ 0 _ rfl; exact iy (bk_ BK252.1) NB252_251.1) Tryz.underlying40 rfl (by kernel_rfl) .nil)))) rfl ?_; exact ⟨_, _, er_, rR_ (Kd.aQ (rf2_ gb252 (Kd.bR (p := ⟨gb251, 4, none⟩) (Kd.bR (p := ⟨gb251, 3, none⟩) (Kd.bR (p := ⟨gb251, 2, none⟩) (Kd.bR (p := ⟨gb251, 1, none⟩) (Kd.bR (p := ⟨gb251, 0, none⟩) (Kd.bu (Kd.bu HO_256001.1 BK251.1 (by decide)) BK252.1 (by decide)) (fun _ hk => hk.1.2) (.string ((ag l0 a1).f1))) (fun _ hk => hk.1.2) (.slice Ao35 x256001_1.length co35)) (fun _ hk => hk.1.2) (.bool false)) (fun _ hk => hk.1.2) (.slice none 0 0)) (fun _ hk => hk.1.2) (.int .i64 ((ag l0 a1).f3)))) (fun _ hk => trivial)), ni_, bl3_ HB.1 GE251.1 GE252.1 GE255.1⟩
  replace H := bn_ H; obtain ⟨t267, A37, H⟩ := H; (try dsimp only at H); replace H := (sb_ H).symm; obtain ⟨rfl, H⟩ | ⟨rfl, H⟩ := H
  ·
   simp only [Option.some.injEq, Prod.mk.injEq] at H; obtain ⟨rfl, rfl, rfl, rfl, rfl, rfl, rfl, rfl⟩ := H; have p258 : 0 ≤ (x1_1 : Int) := dt_; have q258 : x1_1 < (l0.length : Int) := dt_; obtain ⟨ad258, e258, hx258_0, hx258_1, hx258_2, hx258_3⟩ := eZ HR0.1 x1_1 p258 q258; obtain rfl : ad253 = ad258 := (by injection e258); replace hx258_0 := ae HB.1 hx258_0; replace hx258_1 := ae HB.1 hx258_1; replace hx258_2 := ae HB.1 hx258_2; replace hx258_3 := ae HB.1 hx258_3; replace p258 := eq_true p258; replace q258 := eq_true q258
   try go_wp2_with (first | ((with_reducible refine aj (f := 46) rfl ?_); refine gk_ (some 44) Tryz.func46 (dm.calls ((ag l0 x1_1).f0) ((ag l0 x1_1).f1) ((ag l0 x1_1).f2) ((ag l0 x1_1).f3) false _ A18.1) ?_; rintro e w125 ⟨rfl, hb⟩; refine ⟨_, rfl, ?_⟩; refine gm (Kd.aW (rR_ HO_256001.1) hb) (bb_ BK251.1 hb) (bb_ BK252.1 hb) (bb_ BK255.1 hb) (ah (bl3_ HB.1 GE251.1 GE252.1 GE255.1) hb) ?_; clear hb HO_256001 BK251 BK252 BK255 HB; intro HO_256001 BK251 BK252 BK255 HB; have p264 : 0 ≤ (x1_1 : Int) := dt_; have q264 : x1_1 < (l0.length : Int) := dt_; obtain ⟨ad264, e264, hx264_0, hx264_1, hx264_2, hx264_3⟩ := eZ HR0.1 x1_1 p264 q264; obtain rfl : ad253 = ad264 := (by injection e264); replace hx264_0 := ae HB.1 hx264_0; replace hx264_1 := ae HB.1 hx264_1; replace hx264_2 := ae HB.1 hx264_2; replace hx264_3 := ae HB.1 hx264_3; replace p264 := eq_true p264; replace q264 := eq_true q264) | ((with_reducible refine aj (f := 50) rfl ?_); refine gk_ (some 60) Tryz.func50 (bg.calls ((ag l0 x1_1).f0) ((ag l0 x1_1).f1) ((ag l0 x1_1).f2) ((ag l0 x1_1).f3) (⟨#[59]⟩ : ByteArray) false _ A26.1) ?_; rintro e w126 ⟨rfl, hb⟩; refine ⟨_, rfl, ?_⟩; refine gm (Kd.aW (rR_ HO_256001.1) hb) (bb_ BK251.1 hb) (bb_ BK252.1 hb) (bb_ BK255.1 hb) (ah (bl3_ HB.1 GE251.1 GE252.1 GE255.1) hb) ?_; clear hb HO_256001 BK251 BK252 BK255 HB; intro HO_256001 BK251 BK252 BK255 HB; have p266 : 0 ≤ (x1_1 : Int) := dt_; have q266 : x1_1 < (l0.length : Int) := dt_; obtain ⟨ad266, e266, hx266_0, hx266_1, hx266_2, hx266_3⟩ := eZ HR0.1 x1_1 p266 q266; obtain rfl : ad253 = ad266 := (by injection e266); replace hx266_0 := ae HB.1 hx266_0; replace hx266_1 := ae HB.1 hx266_1; replace hx266_2 := ae HB.1 hx266_2; replace hx266_3 := ae HB.1 hx266_3; replace p266 := eq_true p266; replace q266 := eq_true q266) | ((with_reducible refine aj (f := 50) rfl ?_); refine gk_ (some 69) Tryz.func50 (bg.calls ((ag l0 x1_1).f0) ((ag l0 x1_1).f1) ((ag l0 x1_1).f2) ((ag l0 x1_1).f3) (⟨#[123]⟩ : ByteArray) false _ A37.1) ?_; rintro e w127 ⟨rfl, hb⟩; refine ⟨_, rfl, ?_⟩; refine gm (Kd.aW (rR_ HO_256001.1) hb) (bb_ BK251.1 hb) (bb_ BK252.1 hb) (bb_ BK255.1 hb) (ah (bl3_ HB.1 GE251.1 GE252.1 GE255.1) hb) ?_; clear hb HO_256001 BK251 BK252 BK255 HB; intro HO_256001 BK251 BK252 BK255 HB))
   refine gm (Kd.dU HO_256001.1) (bI BK251.1) (bI BK252.1) (bI BK255.1) (bD HB.1) ?_; clear HO_256001 BK251 BK252 BK255 HB; intro HO_256001 BK251 BK252 BK255 HB; obtain ⟨p268, q268, ad268, e268, hw268_0, hw268_1, hw268_2, hw268_3, hx268_0, hx268_1, hx268_2, hx268_3⟩ := jc HB.1 HR0.1 x1_1; obtain rfl : ad253 = ad268 := (by injection e268); obtain ⟨Ao130, co130, eo130⟩ := Kd.cO HO_256001.1
   (first | subst eo130 | (injection eo130 with f1_ f2_ f3_; have f4_ := f1_.symm; have f5_ := f3_.symm; clear f1_ f2_ f3_; subst f4_; subst f5_))
   refine dX (n := 11) (S := fun w' => w'.cell? ⟨gb255, 0, none⟩ = some (.string ((ag l0 a1).f1)) ∧ w'.cell? ⟨gb255, 1, none⟩ = some (.slice Ao130 x256001_1.length co130) ∧ w'.cell? ⟨gb255, 2, none⟩ = some (.bool false) ∧ w'.cell? ⟨gb255, 3, none⟩ = some (.slice none 0 0) ∧ w'.cell? ⟨gb255, 4, none⟩ = some (.int .i64 ((ag l0 a1).f3)) ∧ w'.cell? (ad253.add ((x1_1).toNat * 4)) = some (.int .i64 ((ag l0 x1_1).f0)) ∧ w'.cell? ⟨(ad253.add ((x1_1).toNat * 4)).block, (ad253.add ((x1_1).toNat * 4)).off + 1, none⟩ = some (.string ((ag l0 x1_1).f1)) ∧ w'.cell? ⟨(ad253.add ((x1_1).toNat * 4)).block, (ad253.add ((x1_1).toNat * 4)).off + 2, none⟩ = some (.int .i64 ((ag l0 x1_1).f2)) ∧ w'.cell? ⟨(ad253.add ((x1_1).toNat * 4)).block, (ad253.add ((x1_1).toNat * 4)).off + 3, none⟩ = some (.int .i64 ((ag l0 x1_1).f3))) (ds := []) (bm_ 11 0) (by kernel_rfl) rfl (by kernel_rfl) ⟨ce_ BK255.1 0, ce_ BK255.1 1, ce_ BK255.1 2, ce_ BK255.1 3, ce_ BK255.1 4, (ae HB.1 hw268_0), (ae HB.1 hw268_1), (ae HB.1 hw268_2), (ae HB.1 hw268_3)⟩ (fun hHeld => ?_); refine cZ ak.tab11 ak.bits11 (fun HT_ HW_ => ?_); generalize w127.drew = w128 at HO_256001 BK251 BK252 BK255 HB hx268_0 hx268_1 hx268_2 hx268_3 hHeld ⊢; refine pt_ HT_.1 (i := 1) (N := some 72) (bm_ 11 2) ?_; refine pt_ HT_.1 (i := 2) (N := some 73) (bm_ 11 6) ?_; refine pt_ HT_.1 (i := 3) (N := some 74) (bm_ 11 14) ?_; refine pt_ HT_.1 (i := 4) (N := some 75) (bm_ 11 30) ?_; refine pt_ HT_.1 (i := 5) (N := some 76) (bm_ 11 62) ?_; refine tw_ HT_.1 HW_.1 hHeld (i := 0) (N := some 71) (bm_ 11 63) ?_; refine tw_ HT_.1 HW_.1 hHeld (i := 6) (N := some 77) (bm_ 11 127) ?_; refine pt_ HT_.1 (i := 7) (N := some 78) (bm_ 11 255) ?_; refine on_ HT_.1 (i := 8) (N := none) (bm_ 11 511) (fun K hK => ?_); have hs129 : w128.cell? ⟨gb251, 0, none⟩ = some (.string (⟨#[]⟩ : ByteArray)) := (ax BK251.1 0).trans rfl; have hfs129 := aC BK251.1 0; have hns129_1 := NB252_251.1; have hns129_2 := NB255_251.1; have hms129_1 := NB251_252.1; have hms129_2 := NB251_255.1; have hs131 : w128.cell? ⟨gb251, 1, none⟩ = some (.slice none 0 0) := (ax BK251.1 1).trans rfl; have hfs131 := aC BK251.1 1; have hns131_1 := NB252_251.1; have hns131_2 := NB255_251.1; have hms131_1 := NB251_252.1; have hms131_2 := NB251_255.1; have hs132 : w128.cell? ⟨gb251, 2, none⟩ = some (.bool false) := (ax BK251.1 2).trans rfl; have hfs132 := aC BK251.1 2; have hns132_1 := NB252_251.1; have hns132_2 := NB255_251.1; have hms132_1 := NB251_252.1; have hms132_2 := NB251_255.1; have hs133 : w128.cell? ⟨gb251, 3, none⟩ = some (.slice none 0 0) := (ax BK251.1 3).trans rfl; have hfs133 := aC BK251.1 3; have hns133_1 := NB252_251.1; have hns133_2 := NB255_251.1; have hms133_1 := NB251_252.1; have hms133_2 := NB251_255.1; have hs134 : w128.cell? ⟨gb251, 4, none⟩ = some (.int .i64 0) := (ax BK251.1 4).trans rfl; have hfs134 := aC BK251.1 4; have hns134_1 := NB252_251.1; have hns134_2 := NB255_251.1; have hms134_1 := NB251_252.1; have hms134_2 := NB251_255.1; refine sk_ ?_; refine hK.out _ _ ⟨(cf5_ gb251 NB255_251.1 hHeld.1), (cf5_ gb251 NB255_251.1 hHeld.2.1), (cf5_ gb251 NB255_251.1 hHeld.2.2.1), (cf5_ gb251 NB255_251.1 hHeld.2.2.2.1), (cf5_ gb251 NB255_251.1 hHeld.2.2.2.2.1), (cf5_ gb251 (fr_ hw268_0 GW251.1) hHeld.2.2.2.2.2.1), (cf5_ gb251 (fr_ hw268_1 GW251.1) hHeld.2.2.2.2.2.2.1), (cf5_ gb251 (fr_ hw268_2 GW251.1) hHeld.2.2.2.2.2.2.2.1), (cf5_ gb251 (fr_ hw268_3 GW251.1) hHeld.2.2.2.2.2.2.2.2)⟩ (fun hHeld => ?_); clear hK K; refine pt_ HT_.1 (i := 9) (N := some 7) (bm_ 11 1023) ?_; refine on_ HT_.1 (i := 10) (N := none) (bm_ 11 2047) (fun K hK => ?_); have hs135 : w128.cell? ⟨gb252, 0, none⟩ = some (.int .i64 0) := (ax BK252.1 0).trans rfl; have hfs135 := aC BK252.1 0; have hns135_0 := NB251_252.1; have hns135_2 := NB255_252.1; have hms135_0 := NB252_251.1; have hms135_2 := NB252_255.1; have hs136 : w128.cell? ⟨gb252, 1, none⟩ = some (.int .i64 0) := (ax BK252.1 1).trans rfl; have hfs136 := aC BK252.1 1; have hns136_0 := NB251_252.1; have hns136_2 := NB255_252.1; have hms136_0 := NB252_251.1; have hms136_2 := NB252_255.1; refine sk_ ?_; refine hK.out _ _ ⟨(cf2_ gb252 NB255_252.1 hHeld.1), (cf2_ gb252 NB255_252.1 hHeld.2.1), (cf2_ gb252 NB255_252.1 hHeld.2.2.1), (cf2_ gb252 NB255_252.1 hHeld.2.2.2.1), (cf2_ gb252 NB255_252.1 hHeld.2.2.2.2.1), (cf2_ gb252 (fr_ hw268_0 GW252.1) hHeld.2.2.2.2.2.1), (cf2_ gb252 (fr_ hw268_1 GW252.1) hHeld.2.2.2.2.2.2.1), (cf2_ gb252 (fr_ hw268_2 GW252.1) hHeld.2.2.2.2.2.2.2.1), (cf2_ gb252 (fr_ hw268_3 GW252.1) hHeld.2.2.2.2.2.2.2.2)⟩ (fun hHeld => ?_); clear hK K; refine gB (eB HT_.1 (by kernel_rfl)) ?_
   try go_wp2
   refine bodyPost_ret (dO (rs := [.cell 6 25, .tmp 7, .cell 8 40]) rfl (by simp) (.cell gb251 25 #[.string ((ag l0 a1).f1), .slice Ao130 x256001_1.length co130, .bool false, .slice none 0 0, .int .i64 ((ag l0 a1).f3)] (0, 0) _ rfl (by exact dC (ik (bk_ BK251.1)) NB251_252.1) Tryz.underlying25 rfl (by kernel_rfl) (.tmp (.cell gb252 40 #[.int .i64 2, .int .i64 ((ag l0 x1_1).f3)] (0, 0) _ rfl (by refine aU (cs := #[.int .i64 2, .int .i64 0]) ?_ 1 _ rfl; refine aU (cs := #[.int .i64 0, .int .i64 0]) ?_ 0 _ rfl; exact iy (bk_ BK252.1) NB252_251.1) Tryz.underlying40 rfl (by kernel_rfl) .nil)))) rfl ?_; exact ⟨_, _, er_, rR_ (Kd.aQ (rf2_ gb252 (Kd.bR (p := ⟨gb251, 4, none⟩) (Kd.bR (p := ⟨gb251, 3, none⟩) (Kd.bR (p := ⟨gb251, 2, none⟩) (Kd.bR (p := ⟨gb251, 1, none⟩) (Kd.bR (p := ⟨gb251, 0, none⟩) (Kd.bu (Kd.bu HO_256001.1 BK251.1 (by decide)) BK252.1 (by decide)) (fun _ hk => hk.1.2) (.string ((ag l0 a1).f1))) (fun _ hk => hk.1.2) (.slice Ao130 x256001_1.length co130)) (fun _ hk => hk.1.2) (.bool false)) (fun _ hk => hk.1.2) (.slice none 0 0)) (fun _ hk => hk.1.2) (.int .i64 ((ag l0 a1).f3)))) (fun _ hk => trivial)), ni_, bl3_ HB.1 GE251.1 GE252.1 GE255.1⟩
  replace H := sp_ H; obtain ⟨c39, H⟩ | ⟨c39, H⟩ := H
  ·
   have c39b0 := beq_iff_eq.mpr c39; have c39b1 := bne_eq_false_iff_eq.mpr c39; clear c39; simp only [Option.some.injEq, Prod.mk.injEq] at H; obtain ⟨rfl, rfl, rfl, rfl, rfl, rfl, rfl, rfl⟩ := H; have p258 : 0 ≤ (x1_1 : Int) := dt_; have q258 : x1_1 < (l0.length : Int) := dt_; obtain ⟨ad258, e258, hx258_0, hx258_1, hx258_2, hx258_3⟩ := eZ HR0.1 x1_1 p258 q258; obtain rfl : ad253 = ad258 := (by injection e258); replace hx258_0 := ae HB.1 hx258_0; replace hx258_1 := ae HB.1 hx258_1; replace hx258_2 := ae HB.1 hx258_2; replace hx258_3 := ae HB.1 hx258_3; replace p258 := eq_true p258; replace q258 := eq_true q258
   try go_wp2_with (first | ((with_reducible refine aj (f := 46) rfl ?_); refine gk_ (some 44) Tryz.func46 (dm.calls ((ag l0 x1_1).f0) ((ag l0 x1_1).f1) ((ag l0 x1_1).f2) ((ag l0 x1_1).f3) false _ A18.1) ?_; rintro e w40 ⟨rfl, hb⟩; refine ⟨_, rfl, ?_⟩; refine gm (Kd.aW (rR_ HO_256001.1) hb) (bb_ BK251.1 hb) (bb_ BK252.1 hb) (bb_ BK255.1 hb) (ah (bl3_ HB.1 GE251.1 GE252.1 GE255.1) hb) ?_; clear hb HO_256001 BK251 BK252 BK255 HB; intro HO_256001 BK251 BK252 BK255 HB; have p264 : 0 ≤ (x1_1 : Int) := dt_; have q264 : x1_1 < (l0.length : Int) := dt_; obtain ⟨ad264, e264, hx264_0, hx264_1, hx264_2, hx264_3⟩ := eZ HR0.1 x1_1 p264 q264; obtain rfl : ad253 = ad264 := (by injection e264); replace hx264_0 := ae HB.1 hx264_0; replace hx264_1 := ae HB.1 hx264_1; replace hx264_2 := ae HB.1 hx264_2; replace hx264_3 := ae HB.1 hx264_3; replace p264 := eq_true p264; replace q264 := eq_true q264) | ((with_reducible refine aj (f := 50) rfl ?_); refine gk_ (some 60) Tryz.func50 (bg.calls ((ag l0 x1_1).f0) ((ag l0 x1_1).f1) ((ag l0 x1_1).f2) ((ag l0 x1_1).f3) (⟨#[59]⟩ : ByteArray) false _ A26.1) ?_; rintro e w41 ⟨rfl, hb⟩; refine ⟨_, rfl, ?_⟩; refine gm (Kd.aW (rR_ HO_256001.1) hb) (bb_ BK251.1 hb) (bb_ BK252.1 hb) (bb_ BK255.1 hb) (ah (bl3_ HB.1 GE251.1 GE252.1 GE255.1) hb) ?_; clear hb HO_256001 BK251 BK252 BK255 HB; intro HO_256001 BK251 BK252 BK255 HB; have p266 : 0 ≤ (x1_1 : Int) := dt_; have q266 : x1_1 < (l0.length : Int) := dt_; obtain ⟨ad266, e266, hx266_0, hx266_1, hx266_2, hx266_3⟩ := eZ HR0.1 x1_1 p266 q266; obtain rfl : ad253 = ad266 := (by injection e266); replace hx266_0 := ae HB.1 hx266_0; replace hx266_1 := ae HB.1 hx266_1; replace hx266_2 := ae HB.1 hx266_2; replace hx266_3 := ae HB.1 hx266_3; replace p266 := eq_true p266; replace q266 := eq_true q266) | ((with_reducible refine aj (f := 50) rfl ?_); refine gk_ (some 69) Tryz.func50 (bg.calls ((ag l0 x1_1).f0) ((ag l0 x1_1).f1) ((ag l0 x1_1).f2) ((ag l0 x1_1).f3) (⟨#[123]⟩ : ByteArray) true _ A37.1) ?_; rintro e w42 ⟨rfl, hb⟩; refine ⟨_, rfl, ?_⟩; refine gm (Kd.aW (rR_ HO_256001.1) hb) (bb_ BK251.1 hb) (bb_ BK252.1 hb) (bb_ BK255.1 hb) (ah (bl3_ HB.1 GE251.1 GE252.1 GE255.1) hb) ?_; clear hb HO_256001 BK251 BK252 BK255 HB; intro HO_256001 BK251 BK252 BK255 HB))
   refine gm (Kd.dU HO_256001.1) (bI BK251.1) (bI BK252.1) (bI BK255.1) (bD HB.1) ?_; clear HO_256001 BK251 BK252 BK255 HB; intro HO_256001 BK251 BK252 BK255 HB; obtain ⟨p269, q269, ad269, e269, hw269_0, hw269_1, hw269_2, hw269_3, hx269_0, hx269_1, hx269_2, hx269_3⟩ := jc HB.1 HR0.1 x1_1; obtain rfl : ad253 = ad269 := (by injection e269); obtain ⟨Ao45, co45, eo45⟩ := Kd.cO HO_256001.1
   (first | subst eo45 | (injection eo45 with f1_ f2_ f3_; have f4_ := f1_.symm; have f5_ := f3_.symm; clear f1_ f2_ f3_; subst f4_; subst f5_))
   refine dX (n := 11) (S := fun w' => w'.cell? ⟨gb255, 0, none⟩ = some (.string ((ag l0 a1).f1)) ∧ w'.cell? ⟨gb255, 1, none⟩ = some (.slice Ao45 x256001_1.length co45) ∧ w'.cell? ⟨gb255, 2, none⟩ = some (.bool false) ∧ w'.cell? ⟨gb255, 3, none⟩ = some (.slice none 0 0) ∧ w'.cell? ⟨gb255, 4, none⟩ = some (.int .i64 ((ag l0 a1).f3)) ∧ w'.cell? (ad253.add ((x1_1).toNat * 4)) = some (.int .i64 ((ag l0 x1_1).f0)) ∧ w'.cell? ⟨(ad253.add ((x1_1).toNat * 4)).block, (ad253.add ((x1_1).toNat * 4)).off + 1, none⟩ = some (.string ((ag l0 x1_1).f1)) ∧ w'.cell? ⟨(ad253.add ((x1_1).toNat * 4)).block, (ad253.add ((x1_1).toNat * 4)).off + 2, none⟩ = some (.int .i64 ((ag l0 x1_1).f2)) ∧ w'.cell? ⟨(ad253.add ((x1_1).toNat * 4)).block, (ad253.add ((x1_1).toNat * 4)).off + 3, none⟩ = some (.int .i64 ((ag l0 x1_1).f3))) (ds := []) (bm_ 11 0) (by kernel_rfl) rfl (by kernel_rfl) ⟨ce_ BK255.1 0, ce_ BK255.1 1, ce_ BK255.1 2, ce_ BK255.1 3, ce_ BK255.1 4, (ae HB.1 hw269_0), (ae HB.1 hw269_1), (ae HB.1 hw269_2), (ae HB.1 hw269_3)⟩ (fun hHeld => ?_); refine cZ ak.tab13 ak.bits13 (fun HT_ HW_ => ?_); generalize w42.drew = w43 at HO_256001 BK251 BK252 BK255 HB hx269_0 hx269_1 hx269_2 hx269_3 hHeld ⊢; refine pt_ HT_.1 (i := 1) (N := some 82) (bm_ 11 2) ?_; refine pt_ HT_.1 (i := 2) (N := some 83) (bm_ 11 6) ?_; refine pt_ HT_.1 (i := 3) (N := some 84) (bm_ 11 14) ?_; refine pt_ HT_.1 (i := 4) (N := some 85) (bm_ 11 30) ?_; refine pt_ HT_.1 (i := 5) (N := some 86) (bm_ 11 62) ?_; refine tw_ HT_.1 HW_.1 hHeld (i := 0) (N := some 81) (bm_ 11 63) ?_; refine tw_ HT_.1 HW_.1 hHeld (i := 6) (N := some 87) (bm_ 11 127) ?_; refine pt_ HT_.1 (i := 7) (N := some 88) (bm_ 11 255) ?_; refine on_ HT_.1 (i := 8) (N := none) (bm_ 11 511) (fun K hK => ?_); have hs44 : w43.cell? ⟨gb251, 0, none⟩ = some (.string (⟨#[]⟩ : ByteArray)) := (ax BK251.1 0).trans rfl; have hfs44 := aC BK251.1 0; have hns44_1 := NB252_251.1; have hns44_2 := NB255_251.1; have hms44_1 := NB251_252.1; have hms44_2 := NB251_255.1; have hs46 : w43.cell? ⟨gb251, 1, none⟩ = some (.slice none 0 0) := (ax BK251.1 1).trans rfl; have hfs46 := aC BK251.1 1; have hns46_1 := NB252_251.1; have hns46_2 := NB255_251.1; have hms46_1 := NB251_252.1; have hms46_2 := NB251_255.1; have hs47 : w43.cell? ⟨gb251, 2, none⟩ = some (.bool false) := (ax BK251.1 2).trans rfl; have hfs47 := aC BK251.1 2; have hns47_1 := NB252_251.1; have hns47_2 := NB255_251.1; have hms47_1 := NB251_252.1; have hms47_2 := NB251_255.1; have hs48 : w43.cell? ⟨gb251, 3, none⟩ = some (.slice none 0 0) := (ax BK251.1 3).trans rfl; have hfs48 := aC BK251.1 3; have hns48_1 := NB252_251.1; have hns48_2 := NB255_251.1; have hms48_1 := NB251_252.1; have hms48_2 := NB251_255.1; have hs49 : w43.cell? ⟨gb251, 4, none⟩ = some (.int .i64 0) := (ax BK251.1 4).trans rfl; have hfs49 := aC BK251.1 4; have hns49_1 := NB252_251.1; have hns49_2 := NB255_251.1; have hms49_1 := NB251_252.1; have hms49_2 := NB251_255.1; refine sk_ ?_; refine hK.out _ _ ⟨(cf5_ gb251 NB255_251.1 hHeld.1), (cf5_ gb251 NB255_251.1 hHeld.2.1), (cf5_ gb251 NB255_251.1 hHeld.2.2.1), (cf5_ gb251 NB255_251.1 hHeld.2.2.2.1), (cf5_ gb251 NB255_251.1 hHeld.2.2.2.2.1), (cf5_ gb251 (fr_ hw269_0 GW251.1) hHeld.2.2.2.2.2.1), (cf5_ gb251 (fr_ hw269_1 GW251.1) hHeld.2.2.2.2.2.2.1), (cf5_ gb251 (fr_ hw269_2 GW251.1) hHeld.2.2.2.2.2.2.2.1), (cf5_ gb251 (fr_ hw269_3 GW251.1) hHeld.2.2.2.2.2.2.2.2)⟩ (fun hHeld => ?_); clear hK K; refine pt_ HT_.1 (i := 9) (N := some 7) (bm_ 11 1023) ?_; refine on_ HT_.1 (i := 10) (N := none) (bm_ 11 2047) (fun K hK => ?_); have hs50 : w43.cell? ⟨gb252, 0, none⟩ = some (.int .i64 0) := (ax BK252.1 0).trans rfl; have hfs50 := aC BK252.1 0; have hns50_0 := NB251_252.1; have hns50_2 := NB255_252.1; have hms50_0 := NB252_251.1; have hms50_2 := NB252_255.1; have hs51 : w43.cell? ⟨gb252, 1, none⟩ = some (.int .i64 0) := (ax BK252.1 1).trans rfl; have hfs51 := aC BK252.1 1; have hns51_0 := NB251_252.1; have hns51_2 := NB255_252.1; have hms51_0 := NB252_251.1; have hms51_2 := NB252_255.1; refine sk_ ?_; refine hK.out _ _ ⟨(cf2_ gb252 NB255_252.1 hHeld.1), (cf2_ gb252 NB255_252.1 hHeld.2.1), (cf2_ gb252 NB255_252.1 hHeld.2.2.1), (cf2_ gb252 NB255_252.1 hHeld.2.2.2.1), (cf2_ gb252 NB255_252.1 hHeld.2.2.2.2.1), (cf2_ gb252 (fr_ hw269_0 GW252.1) hHeld.2.2.2.2.2.1), (cf2_ gb252 (fr_ hw269_1 GW252.1) hHeld.2.2.2.2.2.2.1), (cf2_ gb252 (fr_ hw269_2 GW252.1) hHeld.2.2.2.2.2.2.2.1), (cf2_ gb252 (fr_ hw269_3 GW252.1) hHeld.2.2.2.2.2.2.2.2)⟩ (fun hHeld => ?_); clear hK K; refine gB (eB HT_.1 (by kernel_rfl)) ?_
   try go_wp2
   refine bodyPost_ret (dO (rs := [.cell 6 25, .tmp 7, .cell 8 40]) rfl (by simp) (.cell gb251 25 #[.string ((ag l0 a1).f1), .slice Ao45 x256001_1.length co45, .bool false, .slice none 0 0, .int .i64 ((ag l0 a1).f3)] (0, 0) _ rfl (by exact dC (ik (bk_ BK251.1)) NB251_252.1) Tryz.underlying25 rfl (by kernel_rfl) (.tmp (.cell gb252 40 #[.int .i64 6, .int .i64 ((ag l0 x1_1).f3)] (0, 0) _ rfl (by refine aU (cs := #[.int .i64 6, .int .i64 0]) ?_ 1 _ rfl; refine aU (cs := #[.int .i64 0, .int .i64 0]) ?_ 0 _ rfl; exact iy (bk_ BK252.1) NB252_251.1) Tryz.underlying40 rfl (by kernel_rfl) .nil)))) rfl ?_; exact ⟨_, _, er_, rR_ (Kd.aQ (rf2_ gb252 (Kd.bR (p := ⟨gb251, 4, none⟩) (Kd.bR (p := ⟨gb251, 3, none⟩) (Kd.bR (p := ⟨gb251, 2, none⟩) (Kd.bR (p := ⟨gb251, 1, none⟩) (Kd.bR (p := ⟨gb251, 0, none⟩) (Kd.bu (Kd.bu HO_256001.1 BK251.1 (by decide)) BK252.1 (by decide)) (fun _ hk => hk.1.2) (.string ((ag l0 a1).f1))) (fun _ hk => hk.1.2) (.slice Ao45 x256001_1.length co45)) (fun _ hk => hk.1.2) (.bool false)) (fun _ hk => hk.1.2) (.slice none 0 0)) (fun _ hk => hk.1.2) (.int .i64 ((ag l0 a1).f3)))) (fun _ hk => trivial)), ni_, bl3_ HB.1 GE251.1 GE252.1 GE255.1⟩
  have c39b0 := beq_eq_false_iff_ne.mpr c39; have c39b1 := bne_iff_ne.mpr c39; have H' := af.mk H; clear H; have p258 : 0 ≤ (x1_1 : Int) := dt_; have q258 : x1_1 < (l0.length : Int) := dt_; obtain ⟨ad258, e258, hx258_0, hx258_1, hx258_2, hx258_3⟩ := eZ HR0.1 x1_1 p258 q258; obtain rfl : ad253 = ad258 := (by injection e258); replace hx258_0 := ae HB.1 hx258_0; replace hx258_1 := ae HB.1 hx258_1; replace hx258_2 := ae HB.1 hx258_2; replace hx258_3 := ae HB.1 hx258_3; replace p258 := eq_true p258; replace q258 := eq_true q258
  go_wp2_with (first | ((with_reducible refine aj (f := 46) rfl ?_); refine gk_ (some 44) Tryz.func46 (dm.calls ((ag l0 x1_1).f0) ((ag l0 x1_1).f1) ((ag l0 x1_1).f2) ((ag l0 x1_1).f3) false _ A18.1) ?_; rintro e w52 ⟨rfl, hb⟩; refine ⟨_, rfl, ?_⟩; refine gm (Kd.aW (rR_ HO_256001.1) hb) (bb_ BK251.1 hb) (bb_ BK252.1 hb) (bb_ BK255.1 hb) (ah (bl3_ HB.1 GE251.1 GE252.1 GE255.1) hb) ?_; clear hb HO_256001 BK251 BK252 BK255 HB; intro HO_256001 BK251 BK252 BK255 HB; have p264 : 0 ≤ (x1_1 : Int) := dt_; have q264 : x1_1 < (l0.length : Int) := dt_; obtain ⟨ad264, e264, hx264_0, hx264_1, hx264_2, hx264_3⟩ := eZ HR0.1 x1_1 p264 q264; obtain rfl : ad253 = ad264 := (by injection e264); replace hx264_0 := ae HB.1 hx264_0; replace hx264_1 := ae HB.1 hx264_1; replace hx264_2 := ae HB.1 hx264_2; replace hx264_3 := ae HB.1 hx264_3; replace p264 := eq_true p264; replace q264 := eq_true q264) | ((with_reducible refine aj (f := 50) rfl ?_); refine gk_ (some 60) Tryz.func50 (bg.calls ((ag l0 x1_1).f0) ((ag l0 x1_1).f1) ((ag l0 x1_1).f2) ((ag l0 x1_1).f3) (⟨#[59]⟩ : ByteArray) false _ A26.1) ?_; rintro e w53 ⟨rfl, hb⟩; refine ⟨_, rfl, ?_⟩; refine gm (Kd.aW (rR_ HO_256001.1) hb) (bb_ BK251.1 hb) (bb_ BK252.1 hb) (bb_ BK255.1 hb) (ah (bl3_ HB.1 GE251.1 GE252.1 GE255.1) hb) ?_; clear hb HO_256001 BK251 BK252 BK255 HB; intro HO_256001 BK251 BK252 BK255 HB; have p266 : 0 ≤ (x1_1 : Int) := dt_; have q266 : x1_1 < (l0.length : Int) := dt_; obtain ⟨ad266, e266, hx266_0, hx266_1, hx266_2, hx266_3⟩ := eZ HR0.1 x1_1 p266 q266; obtain rfl : ad253 = ad266 := (by injection e266); replace hx266_0 := ae HB.1 hx266_0; replace hx266_1 := ae HB.1 hx266_1; replace hx266_2 := ae HB.1 hx266_2; replace hx266_3 := ae HB.1 hx266_3; replace p266 := eq_true p266; replace q266 := eq_true q266) | ((with_reducible refine aj (f := 50) rfl ?_); refine gk_ (some 69) Tryz.func50 (bg.calls ((ag l0 x1_1).f0) ((ag l0 x1_1).f1) ((ag l0 x1_1).f2) ((ag l0 x1_1).f3) (⟨#[123]⟩ : ByteArray) true _ A37.1) ?_; rintro e w54 ⟨rfl, hb⟩; refine ⟨_, rfl, ?_⟩; refine gm (Kd.aW (rR_ HO_256001.1) hb) (bb_ BK251.1 hb) (bb_ BK252.1 hb) (bb_ BK255.1 hb) (ah (bl3_ HB.1 GE251.1 GE252.1 GE255.1) hb) ?_; clear hb HO_256001 BK251 BK252 BK255 HB; intro HO_256001 BK251 BK252 BK255 HB; have hnb55 := NB255_251.1; have hnc55 := NB251_255.1; have hnb56 := NB255_252.1; have hnc56 := NB252_255.1; obtain ⟨hcz57_0, hcz57_1, hcz57_2, hcz57_3, hcz57_4, hfz57_0, hfz57_1, hfz57_2, hfz57_3, hfz57_4⟩ := cq5_ BK255.1))
  go_loopg [1] k1 (fun kq v1 w' => ∃ (x1_2 : Int) (x252000_2 : ByteArray) (x252002_2 : Bool) (x252004_2 : Int) (x253000_2 : Int) (x253001_2 : Int) (x256003_2 : List (S41)) (u256003 : Value), v1 = .int .i64 x1_2 ∧ af (ak.l1 kq l0 x1_2 a2 ((ag l0 a1).f1) x256001_1 true x256003_2 ((ag l0 a1).f3) = some (r1, r2, r3, r4, r5, r6, r7, r8)) ∧ af (kq ≤ k1) ∧ af (Kd.R k46 50 w' w.heap.size (fun _ => True) u256001 x256001_1) ∧ af (Kd.R k41 25 w' w.heap.size (fun k_ => some k_ ≠ (u256001 : Value).ownBlock ∧ k_ ≠ gb251 ∧ k_ ≠ gb255) u256003 x256003_2) ∧ af (w'.heap[gb251]? = some (.cells #[.string x252000_2, (.slice none 0 0), .bool x252002_2, (.slice none 0 0), .int .i64 x252004_2] 25 (0, 0))) ∧ af (w'.heap[gb252]? = some (.cells #[.int .i64 x253000_2, .int .i64 x253001_2] 40 (0, 0))) ∧ af (w'.heap[gb255]? = some (.cells #[.string ((ag l0 a1).f1), u256001, .bool true, u256003, .int .i64 ((ag l0 a1).f3)] 25 (0, 0))) ∧ af (Below w.heap.size w w'))
  case atStart => exact ⟨(wrap64 (x1_1 + 1)), ((⟨#[]⟩ : ByteArray)), (false), (0), (0), (0), (([] : List (S41))), (.slice none 0 0), sr_, H', ⟨Nat.le_refl _⟩, ⟨rR_ (Kd.aQ (rf1_ gb255 (Kd.bu HO_256001.1 BK255.1 (by decide))) (fun _ hk => trivial))⟩, ⟨ni_⟩, ⟨fO (bk_ BK251.1) NB251_255.1⟩, ⟨fO (bk_ BK252.1) NB252_255.1⟩, ⟨by refine aU (cs := #[.string ((ag l0 a1).f1), u256001, .bool false, .slice none 0 0, .int .i64 ((ag l0 a1).f3)]) ?_ 2 _ rfl; exact bk_ BK255.1⟩, ⟨bl3_ HB.1 GE251.1 GE252.1 GE255.1⟩⟩
  case round =>
   clear H'; (try clear c4); (try clear c4b0); (try clear c5); (try clear c5b0); (try clear c6); (try clear c6b0); (try clear c6b1); (try clear c16); (try clear c16b0); (try clear c17); (try clear c17b0); (try clear c19); (try clear c27); (try clear c38); (try clear c39); (try clear c39b0); (try clear c39b1); (try clear hcz57_0); (try clear hcz57_1); (try clear hcz57_2); (try clear hcz57_3); (try clear hcz57_4); (try clear hfz57_0); (try clear hfz57_1); (try clear hfz57_2); (try clear hfz57_3); (try clear hfz57_4); (try clear hx253_0); (try clear hx253_1); (try clear hx253_2); (try clear hx253_3); (try clear hx254_0); (try clear hx254_1); (try clear hx254_2); (try clear hx254_3); (try clear hx256_0); (try clear hx256_1); (try clear hx256_2); (try clear hx256_3); (try clear hx258_0); (try clear hx258_1); (try clear hx258_2); (try clear hx258_3); (try clear hx264_0); (try clear hx264_1); (try clear hx264_2); (try clear hx264_3); (try clear hx266_0); (try clear hx266_1); (try clear hx266_2); (try clear hx266_3); (try clear p253); (try clear p254); (try clear p256); (try clear p258); (try clear p264); (try clear p266); (try clear q253); (try clear q254); (try clear q256); (try clear q258); (try clear q264); (try clear q266); obtain ⟨x1_2, x252000_2, x252002_2, x252004_2, x253000_2, x253001_2, x256003_2, u256003, rfl, HA, HK2, HO_256001, HO_256003, BK251, BK252, BK255, HB⟩ := hrel; obtain _ | k2 := gk
   · exact absurd HA.1 (by simp [ak.l1])
   have H := HA.1; clear HA; simp only [ak.l1] at H; replace H := gd_ H; obtain ⟨c58b0, H⟩ := H; replace H := gd_ H; obtain ⟨c59b0, H⟩ := H; replace H := bn_ H; obtain ⟨t271, A60, H⟩ := H; (try dsimp only at H); replace H := sb_ H; obtain ⟨rfl, H⟩ | ⟨rfl, H⟩ := H
   ·
    simp only [Option.some.injEq, Prod.mk.injEq] at H; obtain ⟨rfl, rfl, rfl, rfl, rfl, rfl, rfl, rfl⟩ := H; have p270 : 0 ≤ (x1_2 : Int) := dt_; have q270 : x1_2 < (l0.length : Int) := dt_; obtain ⟨ad270, e270, hx270_0, hx270_1, hx270_2, hx270_3⟩ := eZ HR0.1 x1_2 p270 q270; obtain rfl : ad253 = ad270 := (by injection e270); replace hx270_0 := ae HB.1 hx270_0; replace hx270_1 := ae HB.1 hx270_1; replace hx270_2 := ae HB.1 hx270_2; replace hx270_3 := ae HB.1 hx270_3; replace p270 := eq_true p270; replace q270 := eq_true q270
    go_wp2_with (first | ((with_reducible refine aj (f := 50) rfl ?_); refine gk_ (some 96) Tryz.func50 (bg.calls ((ag l0 x1_2).f0) ((ag l0 x1_2).f1) ((ag l0 x1_2).f2) ((ag l0 x1_2).f3) (⟨#[125]⟩ : ByteArray) true _ A60.1) ?_; rintro e w62 ⟨rfl, hb⟩; refine ⟨_, rfl, ?_⟩; refine kF (Kd.aW (rR_ HO_256001.1) hb) (Kd.aW (rR_ HO_256003.1) hb) (bb_ BK251.1 hb) (bb_ BK252.1 hb) (bb_ BK255.1 hb) (ah (bl3_ HB.1 GE251.1 GE252.1 GE255.1) hb) ?_; clear hb HO_256001 HO_256003 BK251 BK252 BK255 HB; intro HO_256001 HO_256003 BK251 BK252 BK255 HB; have hnb63 := NB255_251.1; have hnc63 := NB251_255.1; have hnb64 := NB255_252.1; have hnc64 := NB252_255.1; obtain ⟨hcz65_0, hcz65_1, hcz65_2, hcz65_3, hcz65_4, hfz65_0, hfz65_1, hfz65_2, hfz65_3, hfz65_4⟩ := cq5_ BK255.1; have hnb66 := NB251_252.1; have hnc66 := NB252_251.1; obtain ⟨hcz67_0, hcz67_1, hcz67_2, hcz67_3, hcz67_4, hfz67_0, hfz67_1, hfz67_2, hfz67_3, hfz67_4⟩ := cq5_ BK251.1; obtain ⟨Ao68, co68, eo68⟩ := Kd.cO HO_256001.1; subst eo68; obtain ⟨Ao69, co69, eo69⟩ := Kd.cO HO_256003.1; subst eo69; obtain ⟨hcz70_0, hcz70_1, hfz70_0, hfz70_1⟩ := cq2_ BK252.1))
    refine bodyPost_ret (dO (rs := [.cell 6 25, .tmp 7, .cell 8 40]) rfl (by simp) (.cell gb251 25 #[.string ((ag l0 a1).f1), .slice Ao68 x256001_1.length co68, .bool true, .slice Ao69 x256003_2.length co69, .int .i64 ((ag l0 a1).f3)] (0, 0) _ rfl (by exact dC (ik (bk_ BK251.1)) NB251_252.1) Tryz.underlying25 rfl (by kernel_rfl) (.tmp (.cell gb252 40 #[.int .i64 0, .int .i64 0] (0, 0) _ rfl (by refine aU (cs := #[.int .i64 0, .int .i64 x253001_2]) ?_ 1 _ rfl; refine aU (cs := #[.int .i64 x253000_2, .int .i64 x253001_2]) ?_ 0 _ rfl; exact iy (bk_ BK252.1) NB252_251.1) Tryz.underlying40 rfl (by kernel_rfl) .nil)))) rfl ?_; exact ⟨_, _, er_, rR_ (Kd.aQ (rf2_ gb252 (Kd.bR (p := ⟨gb251, 4, none⟩) (Kd.bR (p := ⟨gb251, 3, none⟩) (Kd.bR (p := ⟨gb251, 2, none⟩) (Kd.bR (p := ⟨gb251, 1, none⟩) (Kd.bR (p := ⟨gb251, 0, none⟩) (Kd.bu (Kd.bu HO_256001.1 BK251.1 (by decide)) BK252.1 (by decide)) (fun _ hk => hk.1.2) (.string ((ag l0 a1).f1))) (fun _ hk => hk.1.2) (.slice Ao68 x256001_1.length co68)) (fun _ hk => hk.1.2) (.bool true)) (fun _ hk => hk.1.2) (.slice Ao69 x256003_2.length co69)) (fun _ hk => hk.1.2) (.int .i64 ((ag l0 a1).f3)))) (fun _ hk => trivial)), rR_ (Kd.aQ (rf2_ gb252 (Kd.bR (p := ⟨gb251, 4, none⟩) (Kd.bR (p := ⟨gb251, 3, none⟩) (Kd.bR (p := ⟨gb251, 2, none⟩) (Kd.bR (p := ⟨gb251, 1, none⟩) (Kd.bR (p := ⟨gb251, 0, none⟩) (Kd.bu (Kd.aQ HO_256003.1 (fun k_ hk => (⟨hk, hk.2.1⟩ : _ ∧ k_ ≠ gb251))) BK252.1 (by decide)) (fun _ hk => hk.1.2) (.string ((ag l0 a1).f1))) (fun _ hk => hk.1.2) (.slice Ao68 x256001_1.length co68)) (fun _ hk => hk.1.2) (.bool true)) (fun _ hk => hk.1.2) (.slice Ao69 x256003_2.length co69)) (fun _ hk => hk.1.2) (.int .i64 ((ag l0 a1).f3)))) (fun _ hk => hk.1.1.1)), bl3_ HB.1 GE251.1 GE252.1 GE255.1⟩
   replace H := bn_ H; obtain ⟨⟨t272, t273, t276, t277, t280, t281, t282, t283⟩, A71, H⟩ := H; (try dsimp only at H); replace H := sp_ H; obtain ⟨c72, H⟩ | ⟨c72, H⟩ := H
   ·
    have c72b0 := beq_iff_eq.mpr c72; have c72b1 := bne_eq_false_iff_eq.mpr c72; clear c72; replace H := gp_ H; obtain ⟨c73, H⟩ := H; have LMc73 := af.mk c73; clear c73; obtain ⟨y286, hy286⟩ : ∃ y_ : List (S41), y_ = (x256003_2 ++ [(⟨t272, t273, t276, t277, t280⟩ : S41)]) := ⟨_, rfl⟩; replace H : (ak.l1 k2 l0 t281 a2 ((ag l0 a1).f1) x256001_1 true y286 ((ag l0 a1).f3)) = some (r1, r2, r3, r4, r5, r6, r7, r8) := by first | (rw [hy286]; with_reducible exact H) | (have H2_ := (Option.bind_some _ _).symm.trans H; rw [hy286]; with_reducible exact H2_) | (have H2_ := (Option.bind_some _ _).symm.trans H; with_reducible exact H2_) | with_reducible exact H | (rw [hy286]; exact H) | exact H
    have Ny286 := af.mk hy286; clear hy286; have H' := af.mk H; clear H; have p270 : 0 ≤ (x1_2 : Int) := dt_; have q270 : x1_2 < (l0.length : Int) := dt_; obtain ⟨ad270, e270, hx270_0, hx270_1, hx270_2, hx270_3⟩ := eZ HR0.1 x1_2 p270 q270; obtain rfl : ad253 = ad270 := (by injection e270); replace hx270_0 := ae HB.1 hx270_0; replace hx270_1 := ae HB.1 hx270_1; replace hx270_2 := ae HB.1 hx270_2; replace hx270_3 := ae HB.1 hx270_3; replace p270 := eq_true p270; replace q270 := eq_true q270
    go_wp2_with (first | ((with_reducible refine aj (f := 50) rfl ?_); refine gk_ (some 96) Tryz.func50 (bg.calls ((ag l0 x1_2).f0) ((ag l0 x1_2).f1) ((ag l0 x1_2).f2) ((ag l0 x1_2).f3) (⟨#[125]⟩ : ByteArray) false _ A60.1) ?_; rintro e w74 ⟨rfl, hb⟩; refine ⟨_, rfl, ?_⟩; refine kF (Kd.aW (rR_ HO_256001.1) hb) (Kd.aW (rR_ HO_256003.1) hb) (bb_ BK251.1 hb) (bb_ BK252.1 hb) (bb_ BK255.1 hb) (ah (bl3_ HB.1 GE251.1 GE252.1 GE255.1) hb) ?_; clear hb HO_256001 HO_256003 BK251 BK252 BK255 HB; intro HO_256001 HO_256003 BK251 BK252 BK255 HB) | ((with_reducible refine aj (f := 35) rfl ?_); refine gk_ (some 103) Tryz.func35 (ih k2 (by have := HK1.1; have := HK2.1; omega) _ _ l0 x1_2 (wrap64 (a2 + 1)) t272 t273 t276 t277 t280 t281 t282 t283 _ ?side1 ?side2 A71.1) ?_; (case side1 => repeat (first | exact (Kd.di HR0.1 HB.1) | (with_reducible refine Kd.dH ?_ _) | (with_reducible refine Kd.dG ?_ _) | (with_reducible refine Kd.fe ?_))); (case side2 => exact HC0.1); rintro e w75 ⟨v274, v278, rfl, ho0, ho1, hb⟩; refine ⟨_, rfl, ?_⟩; refine jm (Kd.iZ (rR_ HO_256001.1) (Kd.gY ho0) hb) (Kd.aQ (Kd.jv (Kd.jv (Kd.R_old (rR_ HO_256003.1) hb) (Kd.gY ho0)) (Kd.gY ho1)) (fun _ h_ => h_.1)) (Kd.dB (Kd.gX ho0 (Kd.R_lt (rR_ HO_256001.1))) (bH (bl3_ HB.1 GE251.1 GE252.1 GE255.1))) (Kd.dB (Kd.iY (Kd.iY (Kd.gX (Kd.gX ho1 (Kd.R_lt (rR_ HO_256001.1))) (Kd.R_lt (rR_ HO_256003.1))) (g := gb251) (o := .cells #[.string x252000_2, .slice none 0 0, .bool x252002_2, .slice none 0 0, .int .i64 x252004_2] 25 (0, 0)) (bk_ BK251.1)) (g := gb255) (o := .cells #[.string ((ag l0 a1).f1), u256001, .bool true, u256003, .int .i64 ((ag l0 a1).f3)] 25 (0, 0)) (bk_ BK255.1)) (bH (bl3_ HB.1 GE251.1 GE252.1 GE255.1))) (bb_ BK251.1 hb) (bb_ BK252.1 hb) (bb_ BK255.1 hb) (ah (bl3_ HB.1 GE251.1 GE252.1 GE255.1) hb) ?_; clear hb HO_256001 HO_256003 BK251 BK252 BK255 HB; intro HO_256001 HO_256003 HO275 HO279 BK251 BK252 BK255 HB; (try clear ho0); (try clear ho1)) | ((with_reducible refine aA (N := 10) rfl ?_); refine bx_ (N := 10) (cs := #[.string (⟨#[]⟩ : ByteArray), .slice none 0 0, .bool false, .slice none 0 0, .int .i64 0]) (t := 25) ?_; intro gb284 hg w76 hbox hb; refine cut17_ (Kd.aW (rR_ HO_256001.1) hb) (Kd.aW (Kd.eG (rR_ HO_256003.1) gb284 (Nat.le_of_eq hg.symm)) hb) (Kd.aW (rR_ HO275.1) hb) (Kd.aW (Kd.eG (rR_ HO279.1) gb284 (Nat.le_of_eq hg.symm)) hb) (bb_ BK251.1 hb) (bb_ BK252.1 hb) (bb_ BK255.1 hb) (ah (bl3_ HB.1 GE251.1 GE252.1 GE255.1) hb) (hbox) (bz_ (w := w) hg (bl3_ HB.1 GE251.1 GE252.1 GE255.1)) (bz_ (w := w) hg (bl3_ HB.1 GE251.1 GE252.1 GE255.1)) (nl_ hg BK251.1) (ng_ hg BK251.1) (nl_ hg BK252.1) (ng_ hg BK252.1) (nl_ hg BK255.1) (ng_ hg BK255.1) ?_; clear HO_256001 HO_256003 HO275 HO279 BK251 BK252 BK255 HB; intro HO_256001 HO_256003 HO275 HO279 BK251 BK252 BK255 HB BK284 GW284 GE284 NB251_284 NB284_251 NB252_284 NB284_252 NB255_284 NB284_255; clear hb hbox hg) | ((with_reducible refine aA (N := 12) rfl ?_); refine bx_ (N := 12) (cs := #[.int .i64 0, .int .i64 0]) (t := 40) ?_; intro gb285 hg w77 hbox hb; refine cut20_ (Kd.aW (rR_ HO_256001.1) hb) (Kd.aW (rR_ HO_256003.1) hb) (Kd.aW (rR_ HO275.1) hb) (Kd.aW (rR_ HO279.1) hb) (bb_ BK251.1 hb) (bb_ BK252.1 hb) (bb_ BK255.1 hb) (bb_ BK284.1 hb) (ah (bl4_ HB.1 GE251.1 GE252.1 GE255.1 GE284.1) hb) (hbox) (bz_ (w := w) hg (bl4_ HB.1 GE251.1 GE252.1 GE255.1 GE284.1)) (bz_ (w := w) hg (bl4_ HB.1 GE251.1 GE252.1 GE255.1 GE284.1)) (nl_ hg BK251.1) (ng_ hg BK251.1) (nl_ hg BK252.1) (ng_ hg BK252.1) (nl_ hg BK255.1) (ng_ hg BK255.1) (nl_ hg BK284.1) (ng_ hg BK284.1) ?_; clear HO_256001 HO_256003 HO275 HO279 BK251 BK252 BK255 BK284 HB; intro HO_256001 HO_256003 HO275 HO279 BK251 BK252 BK255 BK284 HB BK285 GW285 GE285 NB251_285 NB285_251 NB252_285 NB285_252 NB255_285 NB285_255 NB284_285 NB285_284; clear hb hbox hg; have hnb78 := NB284_251.1; have hnc78 := NB251_284.1; have hnb79 := NB284_252.1; have hnc79 := NB252_284.1; have hnb80 := NB284_255.1; have hnc80 := NB255_284.1; have hnb81 := NB284_285.1; have hnc81 := NB285_284.1; obtain ⟨hcz82_0, hcz82_1, hcz82_2, hcz82_3, hcz82_4, hfz82_0, hfz82_1, hfz82_2, hfz82_3, hfz82_4⟩ := cq5_ BK284.1; obtain ⟨Ao83, co83, eo83⟩ := Kd.cO HO275.1; subst eo83; obtain ⟨Ao84, co84, eo84⟩ := Kd.cO HO279.1; subst eo84) | ((with_reducible refine fD (t := 25) (p := 10) rfl ?_); refine st_ (t := 25) (p := 10) (w1 := (((((w77.setCell ⟨gb284, 0, none⟩ (.string t272)).setCell ⟨gb284, 1, none⟩ (.slice Ao83 t273.length co83)).setCell ⟨gb284, 2, none⟩ (.bool t276)).setCell ⟨gb284, 3, none⟩ (.slice Ao84 t277.length co84)).setCell ⟨gb284, 4, none⟩ (.int .i64 t280))) ?_; intro w85 hw; refine jr ((by rw [hw]; exact rR_ (Kd.aQ (rf5_ gb284 (Kd.bu HO_256001.1 BK284.1 (by decide))) (fun _ hk => hk.1.2)) : Kd.R k46 50 w85 w.heap.size (fun k_ => some k_ ≠ (.slice Ao83 t273.length co83 : Value).ownBlock) u256001 x256001_1)) ((by rw [hw]; exact (by (with_reducible repeat (first | apply Kd.gP | apply Kd.gN | apply Kd.dU)); exact Kd.aQ (rf5_ gb284 (Kd.aQ HO_256003.1 (fun k_ hk => (⟨hk, hk.2⟩ : _ ∧ k_ ≠ gb284)))) (fun _ hk => ⟨hk.1.1.1.1.1, ⟨hk.1.1.1.2, ⟨hk.1.1.2, ⟨hk.1.1.1.1.2.1, ⟨hk.1.1.1.1.2.2, hk.1.2⟩⟩⟩⟩⟩)) : Kd.R k41 25 w85 w.heap.size (fun k_ => some k_ ≠ (u256001 : Value).ownBlock ∧ some k_ ≠ (.slice Ao83 t273.length co83 : Value).ownBlock ∧ some k_ ≠ (.slice Ao84 t277.length co84 : Value).ownBlock ∧ k_ ≠ gb251 ∧ k_ ≠ gb255 ∧ k_ ≠ gb284) u256003 x256003_2)) ((by rw [hw]; exact rR_ (Kd.aQ (rf5_ gb284 (Kd.bu HO275.1 BK284.1 (by decide))) (fun _ hk => hk.1.2)) : Kd.R k46 50 w85 w.heap.size (fun k_ => some k_ ≠ (u256001 : Value).ownBlock) (.slice Ao83 t273.length co83) t273)) ((by rw [hw]; exact (by (with_reducible repeat (first | apply Kd.gP | apply Kd.gN | apply Kd.dU)); exact Kd.aQ (rf5_ gb284 (Kd.aQ HO279.1 (fun k_ hk => (⟨hk, hk.2⟩ : _ ∧ k_ ≠ gb284)))) (fun _ hk => ⟨hk.1.1.1.1.1.2, ⟨hk.1.1.1.1.2, ⟨hk.1.1.1.1.1.1, ⟨hk.1.1.1.2, ⟨hk.1.1.2, hk.1.2⟩⟩⟩⟩⟩)) : Kd.R k41 25 w85 w.heap.size (fun k_ => some k_ ≠ (u256001 : Value).ownBlock ∧ some k_ ≠ (u256003 : Value).ownBlock ∧ some k_ ≠ (.slice Ao83 t273.length co83 : Value).ownBlock ∧ k_ ≠ gb251 ∧ k_ ≠ gb255 ∧ k_ ≠ gb284) (.slice Ao84 t277.length co84) t277)) (bw_ hw (iy (bk_ BK251.1) NB251_284.1)) (bw_ hw (iy (bk_ BK252.1) NB252_284.1)) (bw_ hw (iy (bk_ BK255.1) NB255_284.1)) (bw_ hw (ik (bk_ BK284.1))) (bw_ hw (iy (bk_ BK285.1) NB285_284.1)) (bW_ hw (bl5_ HB.1 GE251.1 GE252.1 GE255.1 GE284.1 GE285.1)) ?_; clear hw HO_256001 HO_256003 HO275 HO279 BK251 BK252 BK255 BK284 BK285 HB; intro HO_256001 HO_256003 HO275 HO279 BK251 BK252 BK255 BK284 BK285 HB; have hnb86 := NB285_251.1; have hnc86 := NB251_285.1; have hnb87 := NB285_252.1; have hnc87 := NB252_285.1; have hnb88 := NB285_255.1; have hnc88 := NB255_285.1; obtain ⟨hcz89_0, hcz89_1, hfz89_0, hfz89_1⟩ := cq2_ BK285.1) | ((with_reducible refine fD (t := 40) (p := 12) rfl ?_); refine st_ (t := 40) (p := 12) (w1 := ((w85.setCell ⟨gb285, 0, none⟩ (.int .i64 t282)).setCell ⟨gb285, 1, none⟩ (.int .i64 t283))) ?_; intro w90 hw; refine jr ((by rw [hw]; exact rR_ (Kd.aQ (rf2_ gb285 (Kd.bu HO_256001.1 BK285.1 (by decide))) (fun _ hk => hk.1)) : Kd.R k46 50 w90 w.heap.size (fun k_ => some k_ ≠ (.slice Ao83 t273.length co83 : Value).ownBlock) u256001 x256001_1)) ((by rw [hw]; exact (by (with_reducible repeat (first | apply Kd.gP | apply Kd.gN | apply Kd.dU)); exact Kd.aQ (rf2_ gb285 (Kd.bu HO_256003.1 BK285.1 (by decide))) (fun _ hk => ⟨hk.1.1, ⟨hk.1.2.1, ⟨hk.1.2.2.1, ⟨hk.1.2.2.2.1, ⟨hk.1.2.2.2.2.1, hk.1.2.2.2.2.2⟩⟩⟩⟩⟩)) : Kd.R k41 25 w90 w.heap.size (fun k_ => some k_ ≠ (u256001 : Value).ownBlock ∧ some k_ ≠ (.slice Ao83 t273.length co83 : Value).ownBlock ∧ some k_ ≠ (.slice Ao84 t277.length co84 : Value).ownBlock ∧ k_ ≠ gb251 ∧ k_ ≠ gb255 ∧ k_ ≠ gb284) u256003 x256003_2)) ((by rw [hw]; exact rR_ (Kd.aQ (rf2_ gb285 (Kd.bu HO275.1 BK285.1 (by decide))) (fun _ hk => hk.1)) : Kd.R k46 50 w90 w.heap.size (fun k_ => some k_ ≠ (u256001 : Value).ownBlock) (.slice Ao83 t273.length co83) t273)) ((by rw [hw]; exact (by (with_reducible repeat (first | apply Kd.gP | apply Kd.gN | apply Kd.dU)); exact Kd.aQ (rf2_ gb285 (Kd.bu HO279.1 BK285.1 (by decide))) (fun _ hk => ⟨hk.1.1, ⟨hk.1.2.1, ⟨hk.1.2.2.1, ⟨hk.1.2.2.2.1, ⟨hk.1.2.2.2.2.1, hk.1.2.2.2.2.2⟩⟩⟩⟩⟩)) : Kd.R k41 25 w90 w.heap.size (fun k_ => some k_ ≠ (u256001 : Value).ownBlock ∧ some k_ ≠ (u256003 : Value).ownBlock ∧ some k_ ≠ (.slice Ao83 t273.length co83 : Value).ownBlock ∧ k_ ≠ gb251 ∧ k_ ≠ gb255 ∧ k_ ≠ gb284) (.slice Ao84 t277.length co84) t277)) (bw_ hw (dC (bk_ BK251.1) NB251_285.1)) (bw_ hw (dC (bk_ BK252.1) NB252_285.1)) (bw_ hw (dC (bk_ BK255.1) NB255_285.1)) (bw_ hw (dC (bk_ BK284.1) NB284_285.1)) (bw_ hw (gU (bk_ BK285.1))) (bW_ hw (bl5_ HB.1 GE251.1 GE252.1 GE255.1 GE284.1 GE285.1)) ?_; clear hw HO_256001 HO_256003 HO275 HO279 BK251 BK252 BK255 BK284 BK285 HB; intro HO_256001 HO_256003 HO275 HO279 BK251 BK252 BK255 BK284 BK285 HB; obtain ⟨hcz91_0, hcz91_1, hfz91_0, hfz91_1⟩ := cq2_ BK285.1; have hnb92 := NB255_251.1; have hnc92 := NB251_255.1; have hnb93 := NB255_252.1; have hnc93 := NB252_255.1; obtain ⟨hcz94_0, hcz94_1, hcz94_2, hcz94_3, hcz94_4, hfz94_0, hfz94_1, hfz94_2, hfz94_3, hfz94_4⟩ := cq5_ BK255.1; obtain ⟨hcz95_0, hcz95_1, hcz95_2, hcz95_3, hcz95_4, hfz95_0, hfz95_1, hfz95_2, hfz95_3, hfz95_4⟩ := cq5_ BK284.1) | ((with_reducible refine fw (b := .append) (xs := #[.tmp 114, .tmp 116]) rfl ?_); at_builtin; refine Kd.iD k41 (w0 := w) w.heap.size rfl (.tmp 114) (.tmp 116) 23 25 (.agg #[(.string ⟨#[]⟩), (.slice none 0 0), (.bool false), (.slice none 0 0), (.int .i64 0)]) 80 rfl Tryz.underlying23 info41 rfl (by decide) (by omega) u256003 x256003_2 (⟨t272, t273, t276, t277, t280⟩ : S41) [.string t272, .slice Ao83 t273.length co83, .bool t276, .slice Ao84 t277.length co84, .int .i64 t280] (fun k_ => some k_ ≠ (u256001 : Value).ownBlock ∧ k_ ≠ gb251 ∧ k_ ≠ gb255 ∧ k_ ≠ gb284) (fun k_ => ((fun k_ => some k_ ≠ (u256001 : Value).ownBlock ∧ k_ ≠ gb251 ∧ k_ ≠ gb255 ∧ k_ ≠ gb284)) k_ ∧ some k_ ≠ (u256003 : Value).ownBlock) rfl rfl ?aP (fun _ hk => hk) ?aF ?aO ?aB ?aS ?aL ?_; (case aP => exact k41_mkM _ _ _ (⟨t272, t273, t276, t277, t280⟩ : S41) (Kd.aQ (Kd.bu (Kd.bu (Kd.bu (Kd.kS (HO275.1) (Kd.kH HO_256003.1) (by decide)) BK251.1 (by decide)) BK255.1 (by decide)) BK284.1 (by decide)) (fun k_ hk => ⟨⟨hk.1.1.1.1, ⟨hk.1.1.2, ⟨hk.1.2, hk.2⟩⟩⟩, hk.1.1.1.2⟩)) (Kd.aQ (HO279.1) (fun k_ hk => ⟨⟨hk.1, ⟨hk.2.2.2.1, ⟨hk.2.2.2.2.1, hk.2.2.2.2.2⟩⟩⟩, hk.2.1⟩))); (case aB => exact (bl5_ HB.1 GE251.1 GE252.1 GE255.1 GE284.1 GE285.1)); (case aF => exact (fun k_ hk => ⟨Kd.fresh' (Kd.R_lt (rR_ HO_256001.1)) k_ hk, Kd.jq (g := gb251) (o := .cells #[.string x252000_2, .slice none 0 0, .bool x252002_2, .slice none 0 0, .int .i64 x252004_2] 25 (0, 0)) (bk_ BK251.1) k_ hk, Kd.jq (g := gb255) (o := .cells #[.string ((ag l0 a1).f1), u256001, .bool true, u256003, .int .i64 ((ag l0 a1).f3)] 25 (0, 0)) (bk_ BK255.1) k_ hk, Kd.jq (g := gb284) (o := .cells #[.string t272, .slice Ao83 t273.length co83, .bool t276, .slice Ao84 t277.length co84, .int .i64 t280] 25 (0, 0)) (bk_ BK284.1) k_ hk⟩)); (case aO => exact (by (with_reducible repeat (first | apply Kd.gP | apply Kd.gN | apply Kd.dU)); exact Kd.aQ HO_256003.1 (fun _ hk => ⟨hk.1, ⟨hk.2.2.2.1, ⟨hk.2.2.2.2.1, hk.2.2.2.2.2⟩⟩⟩))); (case aS => exact (bH (bl5_ HB.1 GE251.1 GE252.1 GE255.1 GE284.1 GE285.1))); (case aL => have := LMc73.1; omega); intro v287 w96 ho hb hg hat; rw [← Ny286.1] at ho; refine jm (Kd.R_over' (rR_ HO_256001.1) (Kd.kH (rR_ HO_256003.1)) (by decide) hg) (bX (g := gb251) (o := .cells #[.string x252000_2, .slice none 0 0, .bool x252002_2, .slice none 0 0, .int .i64 x252004_2] 25 (0, 0)) (bk_ BK251.1) hg (Kd.jQ HO_256003.1 (fun _ hk => hk.2.2.2.1))) (bX (g := gb252) (o := .cells #[.int .i64 x253000_2, .int .i64 x253001_2] 40 (0, 0)) (bk_ BK252.1) hg (Kd.R_ne HO_256003.1 BK252.1 (by decide))) (bX (g := gb255) (o := .cells #[.string ((ag l0 a1).f1), u256001, .bool true, u256003, .int .i64 ((ag l0 a1).f3)] 25 (0, 0)) (bk_ BK255.1) hg (Kd.jQ HO_256003.1 (fun _ hk => hk.2.2.2.2.1))) (bX (g := gb284) (o := .cells #[.string t272, .slice Ao83 t273.length co83, .bool t276, .slice Ao84 t277.length co84, .int .i64 t280] 25 (0, 0)) (bk_ BK284.1) hg (Kd.jQ HO_256003.1 (fun _ hk => hk.2.2.2.2.2))) (bX (g := gb285) (o := .cells #[.int .i64 t282, .int .i64 t283] 40 (0, 0)) (bk_ BK285.1) hg (Kd.R_ne HO_256003.1 BK285.1 (by decide))) (hb) (ho) ?_; clear HO_256001 BK251 BK252 BK255 BK284 BK285 HB HO_256003 HO275 HO279; intro HO_256001 BK251 BK252 BK255 BK284 BK285 HB HO288; clear ho hb hg hat; obtain ⟨Ao97, co97, eo97⟩ := Kd.cO HO288.1; subst eo97; obtain ⟨hcz98_0, hcz98_1, hcz98_2, hcz98_3, hcz98_4, hfz98_0, hfz98_1, hfz98_2, hfz98_3, hfz98_4⟩ := cq5_ BK255.1))
    go_roundg k2
    case measure => have := HK1.1; have := HK2.1; omega
    case rel => exact ⟨(t281), (x252000_2), (x252002_2), (x252004_2), (x253000_2), (x253001_2), (y286), (.slice Ao97 y286.length co97), sr_, H', ⟨by have := HK1.1; have := HK2.1; omega⟩, ⟨rR_ (Kd.aQ (rf1_ gb255 (Kd.bu HO_256001.1 BK255.1 (by decide))) (fun _ hk => trivial))⟩, ⟨by (with_reducible repeat (first | apply Kd.gP | apply Kd.gN | apply Kd.dU)); exact Kd.aQ (rf1_ gb255 (Kd.aQ HO288.1 (fun k_ hk => (⟨hk, hk.2.2.1⟩ : _ ∧ k_ ≠ gb255)))) (fun _ hk => ⟨hk.1.1, ⟨hk.1.2.1, hk.1.2.2.1⟩⟩)⟩, ⟨fO (bk_ BK251.1) NB251_255.1⟩, ⟨fO (bk_ BK252.1) NB252_255.1⟩, ⟨by refine aU (cs := #[.string ((ag l0 a1).f1), u256001, .bool true, u256003, .int .i64 ((ag l0 a1).f3)]) ?_ 3 _ rfl; exact bk_ BK255.1⟩, ⟨bl5_ HB.1 GE251.1 GE252.1 GE255.1 GE284.1 GE285.1⟩⟩
   have c72b0 := beq_eq_false_iff_ne.mpr c72; have c72b1 := bne_iff_ne.mpr c72; simp only [Option.some.injEq, Prod.mk.injEq] at H; obtain ⟨rfl, rfl, rfl, rfl, rfl, rfl, rfl, rfl⟩ := H; have p270 : 0 ≤ (x1_2 : Int) := dt_; have q270 : x1_2 < (l0.length : Int) := dt_; obtain ⟨ad270, e270, hx270_0, hx270_1, hx270_2, hx270_3⟩ := eZ HR0.1 x1_2 p270 q270; obtain rfl : ad253 = ad270 := (by injection e270); replace hx270_0 := ae HB.1 hx270_0; replace hx270_1 := ae HB.1 hx270_1; replace hx270_2 := ae HB.1 hx270_2; replace hx270_3 := ae HB.1 hx270_3; replace p270 := eq_true p270; replace q270 := eq_true q270
   try go_wp2_with (first | ((with_reducible refine aj (f := 50) rfl ?_); refine gk_ (some 96) Tryz.func50 (bg.calls ((ag l0 x1_2).f0) ((ag l0 x1_2).f1) ((ag l0 x1_2).f2) ((ag l0 x1_2).f3) (⟨#[125]⟩ : ByteArray) false _ A60.1) ?_; rintro e w99 ⟨rfl, hb⟩; refine ⟨_, rfl, ?_⟩; refine kF (Kd.aW (rR_ HO_256001.1) hb) (Kd.aW (rR_ HO_256003.1) hb) (bb_ BK251.1 hb) (bb_ BK252.1 hb) (bb_ BK255.1 hb) (ah (bl3_ HB.1 GE251.1 GE252.1 GE255.1) hb) ?_; clear hb HO_256001 HO_256003 BK251 BK252 BK255 HB; intro HO_256001 HO_256003 BK251 BK252 BK255 HB) | ((with_reducible refine aj (f := 35) rfl ?_); refine gk_ (some 103) Tryz.func35 (ih k2 (by have := HK1.1; have := HK2.1; omega) _ _ l0 x1_2 (wrap64 (a2 + 1)) t272 t273 t276 t277 t280 t281 t282 t283 _ ?side1 ?side2 A71.1) ?_; (case side1 => repeat (first | exact (Kd.di HR0.1 HB.1) | (with_reducible refine Kd.dH ?_ _) | (with_reducible refine Kd.dG ?_ _) | (with_reducible refine Kd.fe ?_))); (case side2 => exact HC0.1); rintro e w100 ⟨v274, v278, rfl, ho0, ho1, hb⟩; refine ⟨_, rfl, ?_⟩; refine jm (Kd.iZ (rR_ HO_256001.1) (Kd.gY ho0) hb) (Kd.aQ (Kd.jv (Kd.jv (Kd.R_old (rR_ HO_256003.1) hb) (Kd.gY ho0)) (Kd.gY ho1)) (fun _ h_ => h_.1)) (Kd.dB (Kd.gX ho0 (Kd.R_lt (rR_ HO_256001.1))) (bH (bl3_ HB.1 GE251.1 GE252.1 GE255.1))) (Kd.dB (Kd.iY (Kd.iY (Kd.gX (Kd.gX ho1 (Kd.R_lt (rR_ HO_256001.1))) (Kd.R_lt (rR_ HO_256003.1))) (g := gb251) (o := .cells #[.string x252000_2, .slice none 0 0, .bool x252002_2, .slice none 0 0, .int .i64 x252004_2] 25 (0, 0)) (bk_ BK251.1)) (g := gb255) (o := .cells #[.string ((ag l0 a1).f1), u256001, .bool true, u256003, .int .i64 ((ag l0 a1).f3)] 25 (0, 0)) (bk_ BK255.1)) (bH (bl3_ HB.1 GE251.1 GE252.1 GE255.1))) (bb_ BK251.1 hb) (bb_ BK252.1 hb) (bb_ BK255.1 hb) (ah (bl3_ HB.1 GE251.1 GE252.1 GE255.1) hb) ?_; clear hb HO_256001 HO_256003 BK251 BK252 BK255 HB; intro HO_256001 HO_256003 HO275 HO279 BK251 BK252 BK255 HB; (try clear ho0); (try clear ho1)) | ((with_reducible refine aA (N := 10) rfl ?_); refine bx_ (N := 10) (cs := #[.string (⟨#[]⟩ : ByteArray), .slice none 0 0, .bool false, .slice none 0 0, .int .i64 0]) (t := 25) ?_; intro gb284 hg w101 hbox hb; refine cut17_ (Kd.aW (rR_ HO_256001.1) hb) (Kd.aW (Kd.eG (rR_ HO_256003.1) gb284 (Nat.le_of_eq hg.symm)) hb) (Kd.aW (rR_ HO275.1) hb) (Kd.aW (Kd.eG (rR_ HO279.1) gb284 (Nat.le_of_eq hg.symm)) hb) (bb_ BK251.1 hb) (bb_ BK252.1 hb) (bb_ BK255.1 hb) (ah (bl3_ HB.1 GE251.1 GE252.1 GE255.1) hb) (hbox) (bz_ (w := w) hg (bl3_ HB.1 GE251.1 GE252.1 GE255.1)) (bz_ (w := w) hg (bl3_ HB.1 GE251.1 GE252.1 GE255.1)) (nl_ hg BK251.1) (ng_ hg BK251.1) (nl_ hg BK252.1) (ng_ hg BK252.1) (nl_ hg BK255.1) (ng_ hg BK255.1) ?_; clear HO_256001 HO_256003 HO275 HO279 BK251 BK252 BK255 HB; intro HO_256001 HO_256003 HO275 HO279 BK251 BK252 BK255 HB BK284 GW284 GE284 NB251_284 NB284_251 NB252_284 NB284_252 NB255_284 NB284_255; clear hb hbox hg) | ((with_reducible refine aA (N := 12) rfl ?_); refine bx_ (N := 12) (cs := #[.int .i64 0, .int .i64 0]) (t := 40) ?_; intro gb285 hg w102 hbox hb; refine cut20_ (Kd.aW (rR_ HO_256001.1) hb) (Kd.aW (rR_ HO_256003.1) hb) (Kd.aW (rR_ HO275.1) hb) (Kd.aW (rR_ HO279.1) hb) (bb_ BK251.1 hb) (bb_ BK252.1 hb) (bb_ BK255.1 hb) (bb_ BK284.1 hb) (ah (bl4_ HB.1 GE251.1 GE252.1 GE255.1 GE284.1) hb) (hbox) (bz_ (w := w) hg (bl4_ HB.1 GE251.1 GE252.1 GE255.1 GE284.1)) (bz_ (w := w) hg (bl4_ HB.1 GE251.1 GE252.1 GE255.1 GE284.1)) (nl_ hg BK251.1) (ng_ hg BK251.1) (nl_ hg BK252.1) (ng_ hg BK252.1) (nl_ hg BK255.1) (ng_ hg BK255.1) (nl_ hg BK284.1) (ng_ hg BK284.1) ?_; clear HO_256001 HO_256003 HO275 HO279 BK251 BK252 BK255 BK284 HB; intro HO_256001 HO_256003 HO275 HO279 BK251 BK252 BK255 BK284 HB BK285 GW285 GE285 NB251_285 NB285_251 NB252_285 NB285_252 NB255_285 NB285_255 NB284_285 NB285_284; clear hb hbox hg; have hnb103 := NB284_251.1; have hnc103 := NB251_284.1; have hnb104 := NB284_252.1; have hnc104 := NB252_284.1; have hnb105 := NB284_255.1; have hnc105 := NB255_284.1; have hnb106 := NB284_285.1; have hnc106 := NB285_284.1; obtain ⟨hcz107_0, hcz107_1, hcz107_2, hcz107_3, hcz107_4, hfz107_0, hfz107_1, hfz107_2, hfz107_3, hfz107_4⟩ := cq5_ BK284.1; obtain ⟨Ao108, co108, eo108⟩ := Kd.cO HO275.1; subst eo108; obtain ⟨Ao109, co109, eo109⟩ := Kd.cO HO279.1; subst eo109; have hnb110 := NB285_251.1; have hnc110 := NB251_285.1; have hnb111 := NB285_252.1; have hnc111 := NB252_285.1; have hnb112 := NB285_255.1; have hnc112 := NB255_285.1; obtain ⟨hcz113_0, hcz113_1, hfz113_0, hfz113_1⟩ := cq2_ BK285.1))
   have n0_ : af (Kd.R k46 50 (((((((w102.setCell ⟨gb284, 0, none⟩ (.string t272)).setCell ⟨gb284, 1, none⟩ (.slice Ao108 t273.length co108)).setCell ⟨gb284, 2, none⟩ (.bool t276)).setCell ⟨gb284, 3, none⟩ (.slice Ao109 t277.length co109)).setCell ⟨gb284, 4, none⟩ (.int .i64 t280)).setCell ⟨gb285, 0, none⟩ (.int .i64 t282)).setCell ⟨gb285, 1, none⟩ (.int .i64 t283)) w.heap.size (fun k_ => some k_ ≠ (.slice Ao108 t273.length co108 : Value).ownBlock) u256001 x256001_1) := ⟨rR_ (Kd.aQ (rf2_ gb285 (Kd.bR (p := ⟨gb284, 4, none⟩) (Kd.bR (p := ⟨gb284, 3, none⟩) (Kd.bR (p := ⟨gb284, 2, none⟩) (Kd.bR (p := ⟨gb284, 1, none⟩) (Kd.bR (p := ⟨gb284, 0, none⟩) (Kd.bu (Kd.bu HO_256001.1 BK284.1 (by decide)) BK285.1 (by decide)) (fun _ hk => hk.1.2) (.string t272)) (fun _ hk => hk.1.2) (.slice Ao108 t273.length co108)) (fun _ hk => hk.1.2) (.bool t276)) (fun _ hk => hk.1.2) (.slice Ao109 t277.length co109)) (fun _ hk => hk.1.2) (.int .i64 t280))) (fun _ hk => hk.1.1.2))⟩; have n1_ : af (Kd.R k41 25 (((((((w102.setCell ⟨gb284, 0, none⟩ (.string t272)).setCell ⟨gb284, 1, none⟩ (.slice Ao108 t273.length co108)).setCell ⟨gb284, 2, none⟩ (.bool t276)).setCell ⟨gb284, 3, none⟩ (.slice Ao109 t277.length co109)).setCell ⟨gb284, 4, none⟩ (.int .i64 t280)).setCell ⟨gb285, 0, none⟩ (.int .i64 t282)).setCell ⟨gb285, 1, none⟩ (.int .i64 t283)) w.heap.size (fun k_ => some k_ ≠ (u256001 : Value).ownBlock ∧ some k_ ≠ (.slice Ao108 t273.length co108 : Value).ownBlock ∧ some k_ ≠ (.slice Ao109 t277.length co109 : Value).ownBlock ∧ k_ ≠ gb251 ∧ k_ ≠ gb255 ∧ k_ ≠ gb284) u256003 x256003_2) := ⟨by (with_reducible repeat (first | apply Kd.gP | apply Kd.gN | apply Kd.dU)); exact Kd.aQ (rf2_ gb285 (Kd.bR (p := ⟨gb284, 4, none⟩) (Kd.bR (p := ⟨gb284, 3, none⟩) (Kd.bR (p := ⟨gb284, 2, none⟩) (Kd.bR (p := ⟨gb284, 1, none⟩) (Kd.bR (p := ⟨gb284, 0, none⟩) (Kd.bu (Kd.aQ HO_256003.1 (fun k_ hk => (⟨hk, hk.2⟩ : _ ∧ k_ ≠ gb284))) BK285.1 (by decide)) (fun _ hk => hk.1.2) (.string t272)) (fun _ hk => hk.1.2) (.slice Ao108 t273.length co108)) (fun _ hk => hk.1.2) (.bool t276)) (fun _ hk => hk.1.2) (.slice Ao109 t277.length co109)) (fun _ hk => hk.1.2) (.int .i64 t280))) (fun _ hk => ⟨hk.1.1.1.1.1.1, ⟨hk.1.1.1.1.2, ⟨hk.1.1.1.2, ⟨hk.1.1.1.1.1.2.1, ⟨hk.1.1.1.1.1.2.2, hk.1.1.2⟩⟩⟩⟩⟩)⟩; have n2_ : af (Kd.R k46 50 (((((((w102.setCell ⟨gb284, 0, none⟩ (.string t272)).setCell ⟨gb284, 1, none⟩ (.slice Ao108 t273.length co108)).setCell ⟨gb284, 2, none⟩ (.bool t276)).setCell ⟨gb284, 3, none⟩ (.slice Ao109 t277.length co109)).setCell ⟨gb284, 4, none⟩ (.int .i64 t280)).setCell ⟨gb285, 0, none⟩ (.int .i64 t282)).setCell ⟨gb285, 1, none⟩ (.int .i64 t283)) w.heap.size (fun k_ => some k_ ≠ (u256001 : Value).ownBlock) (.slice Ao108 t273.length co108) t273) := ⟨rR_ (Kd.aQ (rf2_ gb285 (Kd.bR (p := ⟨gb284, 4, none⟩) (Kd.bR (p := ⟨gb284, 3, none⟩) (Kd.bR (p := ⟨gb284, 2, none⟩) (Kd.bR (p := ⟨gb284, 1, none⟩) (Kd.bR (p := ⟨gb284, 0, none⟩) (Kd.bu (Kd.bu HO275.1 BK284.1 (by decide)) BK285.1 (by decide)) (fun _ hk => hk.1.2) (.string t272)) (fun _ hk => hk.1.2) (.slice Ao108 t273.length co108)) (fun _ hk => hk.1.2) (.bool t276)) (fun _ hk => hk.1.2) (.slice Ao109 t277.length co109)) (fun _ hk => hk.1.2) (.int .i64 t280))) (fun _ hk => hk.1.1.2))⟩; have n3_ : af (Kd.R k41 25 (((((((w102.setCell ⟨gb284, 0, none⟩ (.string t272)).setCell ⟨gb284, 1, none⟩ (.slice Ao108 t273.length co108)).setCell ⟨gb284, 2, none⟩ (.bool t276)).setCell ⟨gb284, 3, none⟩ (.slice Ao109 t277.length co109)).setCell ⟨gb284, 4, none⟩ (.int .i64 t280)).setCell ⟨gb285, 0, none⟩ (.int .i64 t282)).setCell ⟨gb285, 1, none⟩ (.int .i64 t283)) w.heap.size (fun k_ => some k_ ≠ (u256001 : Value).ownBlock ∧ some k_ ≠ (u256003 : Value).ownBlock ∧ some k_ ≠ (.slice Ao108 t273.length co108 : Value).ownBlock ∧ k_ ≠ gb251 ∧ k_ ≠ gb255 ∧ k_ ≠ gb284) (.slice Ao109 t277.length co109) t277) := ⟨by (with_reducible repeat (first | apply Kd.gP | apply Kd.gN | apply Kd.dU)); exact Kd.aQ (rf2_ gb285 (Kd.bR (p := ⟨gb284, 4, none⟩) (Kd.bR (p := ⟨gb284, 3, none⟩) (Kd.bR (p := ⟨gb284, 2, none⟩) (Kd.bR (p := ⟨gb284, 1, none⟩) (Kd.bR (p := ⟨gb284, 0, none⟩) (Kd.bu (Kd.aQ HO279.1 (fun k_ hk => (⟨hk, hk.2⟩ : _ ∧ k_ ≠ gb284))) BK285.1 (by decide)) (fun _ hk => hk.1.2) (.string t272)) (fun _ hk => hk.1.2) (.slice Ao108 t273.length co108)) (fun _ hk => hk.1.2) (.bool t276)) (fun _ hk => hk.1.2) (.slice Ao109 t277.length co109)) (fun _ hk => hk.1.2) (.int .i64 t280))) (fun _ hk => ⟨hk.1.1.1.1.1.1.2, ⟨hk.1.1.1.1.1.2, ⟨hk.1.1.1.1.1.1.1, ⟨hk.1.1.1.1.2, ⟨hk.1.1.1.2, hk.1.1.2⟩⟩⟩⟩⟩)⟩; have n4_ : af ((((((((w102.setCell ⟨gb284, 0, none⟩ (.string t272)).setCell ⟨gb284, 1, none⟩ (.slice Ao108 t273.length co108)).setCell ⟨gb284, 2, none⟩ (.bool t276)).setCell ⟨gb284, 3, none⟩ (.slice Ao109 t277.length co109)).setCell ⟨gb284, 4, none⟩ (.int .i64 t280)).setCell ⟨gb285, 0, none⟩ (.int .i64 t282)).setCell ⟨gb285, 1, none⟩ (.int .i64 t283)).heap[gb251]? = some (.cells #[.string x252000_2, .slice none 0 0, .bool x252002_2, .slice none 0 0, .int .i64 x252004_2] 25 (0, 0))) := ⟨dC (iy (bk_ BK251.1) NB251_284.1) NB251_285.1⟩; have n5_ : af ((((((((w102.setCell ⟨gb284, 0, none⟩ (.string t272)).setCell ⟨gb284, 1, none⟩ (.slice Ao108 t273.length co108)).setCell ⟨gb284, 2, none⟩ (.bool t276)).setCell ⟨gb284, 3, none⟩ (.slice Ao109 t277.length co109)).setCell ⟨gb284, 4, none⟩ (.int .i64 t280)).setCell ⟨gb285, 0, none⟩ (.int .i64 t282)).setCell ⟨gb285, 1, none⟩ (.int .i64 t283)).heap[gb252]? = some (.cells #[.int .i64 x253000_2, .int .i64 x253001_2] 40 (0, 0))) := ⟨dC (iy (bk_ BK252.1) NB252_284.1) NB252_285.1⟩; have n6_ : af ((((((((w102.setCell ⟨gb284, 0, none⟩ (.string t272)).setCell ⟨gb284, 1, none⟩ (.slice Ao108 t273.length co108)).setCell ⟨gb284, 2, none⟩ (.bool t276)).setCell ⟨gb284, 3, none⟩ (.slice Ao109 t277.length co109)).setCell ⟨gb284, 4, none⟩ (.int .i64 t280)).setCell ⟨gb285, 0, none⟩ (.int .i64 t282)).setCell ⟨gb285, 1, none⟩ (.int .i64 t283)).heap[gb255]? = some (.cells #[.string ((ag l0 a1).f1), u256001, .bool true, u256003, .int .i64 ((ag l0 a1).f3)] 25 (0, 0))) := ⟨dC (iy (bk_ BK255.1) NB255_284.1) NB255_285.1⟩; have n7_ : af ((((((((w102.setCell ⟨gb284, 0, none⟩ (.string t272)).setCell ⟨gb284, 1, none⟩ (.slice Ao108 t273.length co108)).setCell ⟨gb284, 2, none⟩ (.bool t276)).setCell ⟨gb284, 3, none⟩ (.slice Ao109 t277.length co109)).setCell ⟨gb284, 4, none⟩ (.int .i64 t280)).setCell ⟨gb285, 0, none⟩ (.int .i64 t282)).setCell ⟨gb285, 1, none⟩ (.int .i64 t283)).heap[gb284]? = some (.cells #[.string t272, .slice Ao108 t273.length co108, .bool t276, .slice Ao109 t277.length co109, .int .i64 t280] 25 (0, 0))) := ⟨dC (ik (bk_ BK284.1)) NB284_285.1⟩; have n8_ : af ((((((((w102.setCell ⟨gb284, 0, none⟩ (.string t272)).setCell ⟨gb284, 1, none⟩ (.slice Ao108 t273.length co108)).setCell ⟨gb284, 2, none⟩ (.bool t276)).setCell ⟨gb284, 3, none⟩ (.slice Ao109 t277.length co109)).setCell ⟨gb284, 4, none⟩ (.int .i64 t280)).setCell ⟨gb285, 0, none⟩ (.int .i64 t282)).setCell ⟨gb285, 1, none⟩ (.int .i64 t283)).heap[gb285]? = some (.cells #[.int .i64 t282, .int .i64 t283] 40 (0, 0))) := ⟨by refine aU (cs := #[.int .i64 t282, .int .i64 0]) ?_ 1 _ rfl; refine aU (cs := #[.int .i64 0, .int .i64 0]) ?_ 0 _ rfl; exact iy (bk_ BK285.1) NB285_284.1⟩; have n9_ : af (Below w.heap.size w (((((((w102.setCell ⟨gb284, 0, none⟩ (.string t272)).setCell ⟨gb284, 1, none⟩ (.slice Ao108 t273.length co108)).setCell ⟨gb284, 2, none⟩ (.bool t276)).setCell ⟨gb284, 3, none⟩ (.slice Ao109 t277.length co109)).setCell ⟨gb284, 4, none⟩ (.int .i64 t280)).setCell ⟨gb285, 0, none⟩ (.int .i64 t282)).setCell ⟨gb285, 1, none⟩ (.int .i64 t283))) := ⟨bl5_ HB.1 GE251.1 GE252.1 GE255.1 GE284.1 GE285.1⟩; (try clear HO_256001); (try clear HO_256003); (try clear HO275); (try clear HO279); (try clear BK251); (try clear BK252); (try clear BK255); (try clear BK284); (try clear BK285); (try clear HB); generalize (((((((w102.setCell ⟨gb284, 0, none⟩ (.string t272)).setCell ⟨gb284, 1, none⟩ (.slice Ao108 t273.length co108)).setCell ⟨gb284, 2, none⟩ (.bool t276)).setCell ⟨gb284, 3, none⟩ (.slice Ao109 t277.length co109)).setCell ⟨gb284, 4, none⟩ (.int .i64 t280)).setCell ⟨gb285, 0, none⟩ (.int .i64 t282)).setCell ⟨gb285, 1, none⟩ (.int .i64 t283)) = w114 at n0_ n1_ n2_ n3_ n4_ n5_ n6_ n7_ n8_ n9_ ⊢; have HO_256001 := n0_; have HO_256003 := n1_; have HO275 := n2_; have HO279 := n3_; have BK251 := n4_; have BK252 := n5_; have BK255 := n6_; have BK284 := n7_; have BK285 := n8_; have HB := n9_; clear n0_ n1_ n2_ n3_ n4_ n5_ n6_ n7_ n8_ n9_; refine jr (Kd.dU HO_256001.1) (Kd.dU HO_256003.1) (Kd.dU HO275.1) (Kd.dU HO279.1) (bI BK251.1) (bI BK252.1) (bI BK255.1) (bI BK284.1) (bI BK285.1) (bD HB.1) ?_; clear HO_256001 HO_256003 HO275 HO279 BK251 BK252 BK255 BK284 BK285 HB; intro HO_256001 HO_256003 HO275 HO279 BK251 BK252 BK255 BK284 BK285 HB; obtain ⟨Ao117, co117, eo117⟩ := Kd.cO HO_256001.1
   (first | subst eo117 | (injection eo117 with f1_ f2_ f3_; have f4_ := f1_.symm; have f5_ := f3_.symm; clear f1_ f2_ f3_; subst f4_; subst f5_))
   obtain ⟨Ao120, co120, eo120⟩ := Kd.cO HO_256003.1
   (first | subst eo120 | (injection eo120 with f1_ f2_ f3_; have f4_ := f1_.symm; have f5_ := f3_.symm; clear f1_ f2_ f3_; subst f4_; subst f5_))
   refine dX (n := 6) (S := fun w' => w'.cell? ⟨gb255, 0, none⟩ = some (.string ((ag l0 a1).f1)) ∧ w'.cell? ⟨gb255, 1, none⟩ = some (.slice Ao117 x256001_1.length co117) ∧ w'.cell? ⟨gb255, 2, none⟩ = some (.bool true) ∧ w'.cell? ⟨gb255, 3, none⟩ = some (.slice Ao120 x256003_2.length co120) ∧ w'.cell? ⟨gb255, 4, none⟩ = some (.int .i64 ((ag l0 a1).f3)) ∧ w'.cell? ⟨gb285, 0, none⟩ = some (.int .i64 t282) ∧ w'.cell? ⟨gb285, 1, none⟩ = some (.int .i64 t283)) (ds := []) (bm_ 6 0) (by kernel_rfl) rfl (by kernel_rfl) ⟨ce_ BK255.1 0, ce_ BK255.1 1, ce_ BK255.1 2, ce_ BK255.1 3, ce_ BK255.1 4, ce_ BK285.1 0, ce_ BK285.1 1⟩ (fun hHeld => ?_); generalize w114.drew = w115 at HO_256001 HO_256003 HO275 HO279 BK251 BK252 BK255 BK284 BK285 HB hHeld ⊢; refine pr_ (i := 1) (N := some 111) (bm_ 6 2) (by kernel_rfl) ?_; refine take_ (i := 0) (N := some 110) (v := ?_) (a' := ?_) (bm_ 6 3) rfl rfl (by kernel_rfl) (fun _ _ _ h => h) (Or.inl ⟨by rfl, ?_⟩) hHeld ?_ ?_; rotate_left
   ·
    rintro w' ⟨s0, s1, s2, s3, s4, s5, s6⟩; go_simp
    with_reducible rfl
   rotate_left
   ·
    simp only [Act.put, List.setIfInBounds_toArray, List.set_cons_zero, List.set_cons_succ, cz, cK]
    rfl
   refine take_ (i := 2) (N := some 112) (v := ?_) (a' := ?_) (bm_ 6 7) rfl rfl (by kernel_rfl) (fun _ _ _ h => h) (Or.inl ⟨by rfl, ?_⟩) hHeld ?_ ?_; rotate_left
   ·
    rintro w' ⟨s0, s1, s2, s3, s4, s5, s6⟩; go_simp
    with_reducible rfl
   rotate_left
   ·
    simp only [Act.put, List.setIfInBounds_toArray, List.set_cons_zero, List.set_cons_succ, cz, cK]
    rfl
   refine one_ (i := 3) (N := none) (bm_ 6 15) rfl rfl (by kernel_rfl) (by decide) (fun K hK => ?_); have hs116 : w115.cell? ⟨gb251, 0, none⟩ = some (.string x252000_2) := (ax BK251.1 0).trans rfl; have hfs116 := aC BK251.1 0; have hns116_1 := NB252_251.1; have hns116_2 := NB255_251.1; have hns116_3 := NB284_251.1; have hns116_4 := NB285_251.1; have hms116_1 := NB251_252.1; have hms116_2 := NB251_255.1; have hms116_3 := NB251_284.1; have hms116_4 := NB251_285.1; have hs118 : w115.cell? ⟨gb251, 1, none⟩ = some (.slice none 0 0) := (ax BK251.1 1).trans rfl; have hfs118 := aC BK251.1 1; have hns118_1 := NB252_251.1; have hns118_2 := NB255_251.1; have hns118_3 := NB284_251.1; have hns118_4 := NB285_251.1; have hms118_1 := NB251_252.1; have hms118_2 := NB251_255.1; have hms118_3 := NB251_284.1; have hms118_4 := NB251_285.1; have hs119 : w115.cell? ⟨gb251, 2, none⟩ = some (.bool x252002_2) := (ax BK251.1 2).trans rfl; have hfs119 := aC BK251.1 2; have hns119_1 := NB252_251.1; have hns119_2 := NB255_251.1; have hns119_3 := NB284_251.1; have hns119_4 := NB285_251.1; have hms119_1 := NB251_252.1; have hms119_2 := NB251_255.1; have hms119_3 := NB251_284.1; have hms119_4 := NB251_285.1; have hs121 : w115.cell? ⟨gb251, 3, none⟩ = some (.slice none 0 0) := (ax BK251.1 3).trans rfl; have hfs121 := aC BK251.1 3; have hns121_1 := NB252_251.1; have hns121_2 := NB255_251.1; have hns121_3 := NB284_251.1; have hns121_4 := NB285_251.1; have hms121_1 := NB251_252.1; have hms121_2 := NB251_255.1; have hms121_3 := NB251_284.1; have hms121_4 := NB251_285.1; have hs122 : w115.cell? ⟨gb251, 4, none⟩ = some (.int .i64 x252004_2) := (ax BK251.1 4).trans rfl; have hfs122 := aC BK251.1 4; have hns122_1 := NB252_251.1; have hns122_2 := NB255_251.1; have hns122_3 := NB284_251.1; have hns122_4 := NB285_251.1; have hms122_1 := NB251_252.1; have hms122_2 := NB251_255.1; have hms122_3 := NB251_284.1; have hms122_4 := NB251_285.1; refine sk_ ?_; refine hK.out _ _ ⟨(cf5_ gb251 NB255_251.1 hHeld.1), (cf5_ gb251 NB255_251.1 hHeld.2.1), (cf5_ gb251 NB255_251.1 hHeld.2.2.1), (cf5_ gb251 NB255_251.1 hHeld.2.2.2.1), (cf5_ gb251 NB255_251.1 hHeld.2.2.2.2.1), (cf5_ gb251 NB285_251.1 hHeld.2.2.2.2.2.1), (cf5_ gb251 NB285_251.1 hHeld.2.2.2.2.2.2)⟩ (fun hHeld => ?_); clear hK K; refine pr_ (i := 4) (N := some 7) (bm_ 6 31) (by kernel_rfl) ?_; refine one_ (i := 5) (N := none) (bm_ 6 63) rfl rfl (by kernel_rfl) (by decide) (fun K hK => ?_); have hs123 : w115.cell? ⟨gb252, 0, none⟩ = some (.int .i64 x253000_2) := (ax BK252.1 0).trans rfl; have hfs123 := aC BK252.1 0; have hns123_0 := NB251_252.1; have hns123_2 := NB255_252.1; have hns123_3 := NB284_252.1; have hns123_4 := NB285_252.1; have hms123_0 := NB252_251.1; have hms123_2 := NB252_255.1; have hms123_3 := NB252_284.1; have hms123_4 := NB252_285.1; have hs124 : w115.cell? ⟨gb252, 1, none⟩ = some (.int .i64 x253001_2) := (ax BK252.1 1).trans rfl; have hfs124 := aC BK252.1 1; have hns124_0 := NB251_252.1; have hns124_2 := NB255_252.1; have hns124_3 := NB284_252.1; have hns124_4 := NB285_252.1; have hms124_0 := NB252_251.1; have hms124_2 := NB252_255.1; have hms124_3 := NB252_284.1; have hms124_4 := NB252_285.1; refine sk_ ?_; refine hK.out _ _ ⟨(cf2_ gb252 NB255_252.1 hHeld.1), (cf2_ gb252 NB255_252.1 hHeld.2.1), (cf2_ gb252 NB255_252.1 hHeld.2.2.1), (cf2_ gb252 NB255_252.1 hHeld.2.2.2.1), (cf2_ gb252 NB255_252.1 hHeld.2.2.2.2.1), (cf2_ gb252 NB285_252.1 hHeld.2.2.2.2.2.1), (cf2_ gb252 NB285_252.1 hHeld.2.2.2.2.2.2)⟩ (fun hHeld => ?_); clear hK K; refine gB (by kernel_rfl) ?_
   try go_wp2
   refine bodyPost_ret (dO (rs := [.cell 6 25, .tmp 7, .cell 8 40]) rfl (by simp) (.cell gb251 25 #[.string ((ag l0 a1).f1), .slice Ao117 x256001_1.length co117, .bool true, .slice Ao120 x256003_2.length co120, .int .i64 ((ag l0 a1).f3)] (0, 0) _ rfl (by exact dC (ik (bk_ BK251.1)) NB251_252.1) Tryz.underlying25 rfl (by kernel_rfl) (.tmp (.cell gb252 40 #[.int .i64 t282, .int .i64 t283] (0, 0) _ rfl (by refine aU (cs := #[.int .i64 t282, .int .i64 x253001_2]) ?_ 1 _ rfl; refine aU (cs := #[.int .i64 x253000_2, .int .i64 x253001_2]) ?_ 0 _ rfl; exact iy (bk_ BK252.1) NB252_251.1) Tryz.underlying40 rfl (by kernel_rfl) .nil)))) rfl ?_; exact ⟨_, _, er_, rR_ (Kd.aQ (rf2_ gb252 (Kd.bR (p := ⟨gb251, 4, none⟩) (Kd.bR (p := ⟨gb251, 3, none⟩) (Kd.bR (p := ⟨gb251, 2, none⟩) (Kd.bR (p := ⟨gb251, 1, none⟩) (Kd.bR (p := ⟨gb251, 0, none⟩) (Kd.bu (Kd.bu HO_256001.1 BK251.1 (by decide)) BK252.1 (by decide)) (fun _ hk => hk.1.2) (.string ((ag l0 a1).f1))) (fun _ hk => hk.1.2) (.slice Ao117 x256001_1.length co117)) (fun _ hk => hk.1.2) (.bool true)) (fun _ hk => hk.1.2) (.slice Ao120 x256003_2.length co120)) (fun _ hk => hk.1.2) (.int .i64 ((ag l0 a1).f3)))) (fun _ hk => trivial)), rR_ (Kd.aQ (rf2_ gb252 (Kd.bR (p := ⟨gb251, 4, none⟩) (Kd.bR (p := ⟨gb251, 3, none⟩) (Kd.bR (p := ⟨gb251, 2, none⟩) (Kd.bR (p := ⟨gb251, 1, none⟩) (Kd.bR (p := ⟨gb251, 0, none⟩) (Kd.bu (Kd.aQ HO_256003.1 (fun k_ hk => (⟨hk, hk.2.2.2.1⟩ : _ ∧ k_ ≠ gb251))) BK252.1 (by decide)) (fun _ hk => hk.1.2) (.string ((ag l0 a1).f1))) (fun _ hk => hk.1.2) (.slice Ao117 x256001_1.length co117)) (fun _ hk => hk.1.2) (.bool true)) (fun _ hk => hk.1.2) (.slice Ao120 x256003_2.length co120)) (fun _ hk => hk.1.2) (.int .i64 ((ag l0 a1).f3)))) (fun _ hk => hk.1.1.1)), bl5_ HB.1 GE251.1 GE252.1 GE255.1 GE284.1 GE285.1⟩
def bn.l0 : Nat → List (S46) → List (S41) → Int → Option ((List (S41)) × Int × Int)
 | 0, _, _, _ => none
 | k + 1, x4, x6, x7 => if 0 ≤ x7 then (if x7 < (x4.length : Int) then (if ((ag x4 x7).f0) = 5 then (some (x6, 0, 0)) else ((ak.f k x4 x7 0).bind fun bt297 => (if bt297.2.2.2.2.2.2.1 = 0 then (if x6.length < 1759218604441 then (bn.l0 k x4 (x6 ++ [(⟨bt297.1, bt297.2.1, bt297.2.2.1, bt297.2.2.2.1, bt297.2.2.2.2.1⟩ : S41)]) bt297.2.2.2.2.2.1) else (none)) else (some (([] : List (S41)), bt297.2.2.2.2.2.2.1, bt297.2.2.2.2.2.2.2))))) else (none)) else (none)
def bn.f (k : Nat) (a0 : ByteArray) : Option ((List (S41)) × Int × Int) := (bN.f k a0).bind fun bt290 => (if bt290.2.1 = 0 then (bn.l0 k bt290.1 ([] : List (S41)) 0) else (some (([] : List (S41)), bt290.2.1, bt290.2.2)))
theorem bn.calls (k : Nat) (a0 : ByteArray) (r1 : List (S41)) (r2 : Int) (r3 : Int) (w : World) (h : bn.f k a0 = some (r1, r2, r3)) :
  Calls Tryz.prog 17 #[.string a0] w fun e w' => ∃ v0_ : Value, e = .returned (.tuple #[v0_, .agg #[.int .i64 r2, .int .i64 r3]]) ∧ Kd.R k41 25 w' w.heap.size (fun _ => True) v0_ r1 ∧ Below w.heap.size w w' := by
 have hu26 := Tryz.underlying40; have hu41 := Tryz.underlying25; have HB := af.mk (Below.refl w.heap.size w); have H : ((bN.f k a0).bind fun bt290 => (if bt290.2.1 = 0 then (bn.l0 k bt290.1 ([] : List (S41)) 0) else (some (([] : List (S41)), bt290.2.1, bt290.2.2)))) = some (r1, r2, r3) := h; clear h; replace H := bn_ H; obtain ⟨⟨t290, t293, t294⟩, A2, H⟩ := H; (try dsimp only at H); replace H := (sp_ H).symm; obtain ⟨c3, H⟩ | ⟨c3, H⟩ := H
 ·
  have c3b0 := beq_eq_false_iff_ne.mpr c3; have c3b1 := bne_iff_ne.mpr c3; simp only [Option.some.injEq, Prod.mk.injEq] at H; obtain ⟨rfl, rfl, rfl⟩ := H
  go_enter Tryz.func17, Tryz.ntmps17
  try go_wp2_with (first | ((with_reducible refine aA (N := 3) rfl ?_); refine bx_ (N := 3) (cs := #[.int .i64 0, .int .i64 0]) (t := 40) ?_; intro gb289 hg w53 hbox hb; refine df (ah (bl_ HB.1) hb) (hbox) (bz_ (w := w) hg (bl_ HB.1)) (bz_ (w := w) hg (bl_ HB.1)) ?_; clear HB; intro HB BK289 GW289 GE289; clear hb hbox hg) | ((with_reducible refine aj (f := 34) rfl ?_); refine gk_ (some 13) Tryz.func34 (bN.calls k a0 t290 t293 t294 _ A2.1) ?_; rintro e w54 ⟨v291, rfl, ho0, hb⟩; refine ⟨_, rfl, ?_⟩; refine fu (Kd.dB ho0 (bH (bl1_ HB.1 GE289.1))) (bb_ BK289.1 hb) (ah (bl1_ HB.1 GE289.1) hb) ?_; clear hb BK289 HB; intro HO292 BK289 HB; (try clear ho0)) | ((with_reducible refine aA (N := 5) rfl ?_); refine bx_ (N := 5) (cs := #[.int .i64 0, .int .i64 0]) (t := 40) ?_; intro gb295 hg w55 hbox hb; refine jm (Kd.aW (rR_ HO292.1) hb) (bb_ BK289.1 hb) (ah (bl1_ HB.1 GE289.1) hb) (hbox) (bz_ (w := w) hg (bl1_ HB.1 GE289.1)) (bz_ (w := w) hg (bl1_ HB.1 GE289.1)) (nl_ hg BK289.1) (ng_ hg BK289.1) ?_; clear HO292 BK289 HB; intro HO292 BK289 HB BK295 GW295 GE295 NB289_295 NB295_289; clear hb hbox hg; have hnb56 := NB295_289.1; have hnc56 := NB289_295.1; obtain ⟨hcz57_0, hcz57_1, hfz57_0, hfz57_1⟩ := cq2_ BK295.1))
  have n0_ : af (Kd.R k46 50 ((w55.setCell ⟨gb295, 0, none⟩ (.int .i64 t293)).setCell ⟨gb295, 1, none⟩ (.int .i64 t294)) w.heap.size (fun _ => True) v291 t290) := ⟨rR_ (Kd.aQ (rf2_ gb295 (Kd.bu HO292.1 BK295.1 (by decide))) (fun _ hk => trivial))⟩; have n1_ : af (((w55.setCell ⟨gb295, 0, none⟩ (.int .i64 t293)).setCell ⟨gb295, 1, none⟩ (.int .i64 t294)).heap[gb289]? = some (.cells #[.int .i64 0, .int .i64 0] 40 (0, 0))) := ⟨dC (bk_ BK289.1) NB289_295.1⟩; have n2_ : af (((w55.setCell ⟨gb295, 0, none⟩ (.int .i64 t293)).setCell ⟨gb295, 1, none⟩ (.int .i64 t294)).heap[gb295]? = some (.cells #[.int .i64 t293, .int .i64 t294] 40 (0, 0))) := ⟨gU (bk_ BK295.1)⟩; have n3_ : af (Below w.heap.size w ((w55.setCell ⟨gb295, 0, none⟩ (.int .i64 t293)).setCell ⟨gb295, 1, none⟩ (.int .i64 t294))) := ⟨bl2_ HB.1 GE289.1 GE295.1⟩; (try clear HO292); (try clear BK289); (try clear BK295); (try clear HB); generalize ((w55.setCell ⟨gb295, 0, none⟩ (.int .i64 t293)).setCell ⟨gb295, 1, none⟩ (.int .i64 t294)) = w58 at n0_ n1_ n2_ n3_ ⊢; have HO292 := n0_; have BK289 := n1_; have BK295 := n2_; have HB := n3_; clear n0_ n1_ n2_ n3_; refine df (Kd.dU HO292.1) (bI BK289.1) (bI BK295.1) (bD HB.1) ?_; clear HO292 BK289 BK295 HB; intro HO292 BK289 BK295 HB; refine dX (n := 3) (S := fun w' => w'.cell? ⟨gb295, 0, none⟩ = some (.int .i64 t293) ∧ w'.cell? ⟨gb295, 1, none⟩ = some (.int .i64 t294)) (ds := []) #[false, false, false] (by kernel_rfl) rfl rfl ⟨ce_ BK295.1 0, ce_ BK295.1 1⟩ (fun hHeld => ?_); generalize w58.drew = w59 at HO292 BK289 BK295 HB hHeld ⊢; refine pr_ (i := 1) (N := some 2) #[false, true, false] (by kernel_rfl) ?_; refine take_ (i := 0) (N := some 19) (v := ?_) (a' := ?_) #[true, true, false] rfl rfl (by kernel_rfl) (fun _ _ _ h => h) (Or.inl ⟨by rfl, ?_⟩) hHeld ?_ ?_; rotate_left
  ·
   rintro w' ⟨s0, s1⟩; go_simp
   with_reducible rfl
  rotate_left
  ·
   simp only [Act.put, List.setIfInBounds_toArray, List.set_cons_zero, List.set_cons_succ, cz, cK]
   rfl
  refine one_ (i := 2) (N := none) #[true, true, true] rfl rfl (by kernel_rfl) (by decide) (fun K hK => ?_); have hs60 : w59.cell? ⟨gb289, 0, none⟩ = some (.int .i64 0) := (ax BK289.1 0).trans rfl; have hfs60 := aC BK289.1 0; have hns60_1 := NB295_289.1; have hms60_1 := NB289_295.1; have hs61 : w59.cell? ⟨gb289, 1, none⟩ = some (.int .i64 0) := (ax BK289.1 1).trans rfl; have hfs61 := aC BK289.1 1; have hns61_1 := NB295_289.1; have hms61_1 := NB289_295.1; refine sk_ ?_; refine hK.out _ _ ⟨(cf2_ gb289 NB295_289.1 hHeld.1), (cf2_ gb289 NB295_289.1 hHeld.2)⟩ (fun hHeld => ?_); clear hK K; refine gB (by kernel_rfl) ?_
  try go_wp2
  refine bodyPost_ret (eF rfl _ _ gb289 40 #[.int .i64 t293, .int .i64 t294] (0, 0) _ rfl (by exact gU (bk_ BK289.1)) Tryz.underlying40 rfl (by kernel_rfl)) rfl ?_; exact ⟨_, er_, ni_, bl2_ HB.1 GE289.1 GE295.1⟩
 have c3b0 := beq_iff_eq.mpr c3; have c3b1 := bne_eq_false_iff_eq.mpr c3; clear c3; have H' := af.mk H; clear H
 go_enter Tryz.func17, Tryz.ntmps17
 go_wp2_with (first | ((with_reducible refine aA (N := 3) rfl ?_); refine bx_ (N := 3) (cs := #[.int .i64 0, .int .i64 0]) (t := 40) ?_; intro gb289 hg w4 hbox hb; refine df (ah (bl_ HB.1) hb) (hbox) (bz_ (w := w) hg (bl_ HB.1)) (bz_ (w := w) hg (bl_ HB.1)) ?_; clear HB; intro HB BK289 GW289 GE289; clear hb hbox hg) | ((with_reducible refine aj (f := 34) rfl ?_); refine gk_ (some 13) Tryz.func34 (bN.calls k a0 t290 t293 t294 _ A2.1) ?_; rintro e w5 ⟨v291, rfl, ho0, hb⟩; refine ⟨_, rfl, ?_⟩; refine fu (Kd.dB ho0 (bH (bl1_ HB.1 GE289.1))) (bb_ BK289.1 hb) (ah (bl1_ HB.1 GE289.1) hb) ?_; clear hb BK289 HB; intro HO292 BK289 HB; (try clear ho0)) | ((with_reducible refine aA (N := 5) rfl ?_); refine bx_ (N := 5) (cs := #[.int .i64 0, .int .i64 0]) (t := 40) ?_; intro gb295 hg w6 hbox hb; refine jm (Kd.aW (rR_ HO292.1) hb) (bb_ BK289.1 hb) (ah (bl1_ HB.1 GE289.1) hb) (hbox) (bz_ (w := w) hg (bl1_ HB.1 GE289.1)) (bz_ (w := w) hg (bl1_ HB.1 GE289.1)) (nl_ hg BK289.1) (ng_ hg BK289.1) ?_; clear HO292 BK289 HB; intro HO292 BK289 HB BK295 GW295 GE295 NB289_295 NB295_289; clear hb hbox hg; have hnb7 := NB295_289.1; have hnc7 := NB289_295.1; obtain ⟨hcz8_0, hcz8_1, hfz8_0, hfz8_1⟩ := cq2_ BK295.1))
 go_loopg [6, 7] k (fun kq v6 v7 w' => ∃ (x6_1 : List (S41)) (x7_1 : Int) (x290000_1 : Int) (x290001_1 : Int), v7 = .int .i64 x7_1 ∧ af (bn.l0 kq t290 x6_1 x7_1 = some (r1, r2, r3)) ∧ af (kq ≤ k) ∧ af (Kd.R k46 50 w' w.heap.size (fun _ => True) v291 t290) ∧ af (Kd.R k41 25 w' w.heap.size (fun k_ => some k_ ≠ (v291 : Value).ownBlock) v6 x6_1) ∧ af (w'.heap[gb289]? = some (.cells #[.int .i64 x290000_1, .int .i64 x290001_1] 40 (0, 0))) ∧ af (w'.heap[gb295]? = some (.cells #[.int .i64 t293, .int .i64 t294] 40 (0, 0))) ∧ af (Below w.heap.size w w'))
 case atStart => exact ⟨(([] : List (S41))), (0), (0), (0), sr_, H', ⟨Nat.le_refl _⟩, ⟨rR_ (Kd.aQ (rf2_ gb295 (Kd.bu HO292.1 BK295.1 (by decide))) (fun _ hk => trivial))⟩, ⟨ni_⟩, ⟨dC (bk_ BK289.1) NB289_295.1⟩, ⟨gU (bk_ BK295.1)⟩, ⟨bl2_ HB.1 GE289.1 GE295.1⟩⟩
 case round =>
  clear H'; (try clear c3); (try clear c3b0); (try clear c3b1); (try clear hcz8_0); (try clear hcz8_1); (try clear hfz8_0); (try clear hfz8_1); obtain ⟨x6_1, x7_1, x290000_1, x290001_1, rfl, HA, HK1, HO_4, HO_6, BK289, BK295, HB⟩ := hrel; obtain _ | k1 := gk
  · exact absurd HA.1 (by simp [bn.l0])
  have H := HA.1; clear HA; simp only [bn.l0] at H; replace H := gd_ H; obtain ⟨c9b0, H⟩ := H; replace H := gd_ H; obtain ⟨c10b0, H⟩ := H; replace H := sp_ H; obtain ⟨c11, H⟩ | ⟨c11, H⟩ := H
  ·
   have c11b0 := beq_iff_eq.mpr c11; have c11b1 := bne_eq_false_iff_eq.mpr c11; clear c11; simp only [Option.some.injEq, Prod.mk.injEq] at H; obtain ⟨rfl, rfl, rfl⟩ := H; obtain ⟨Ao12, co12, eo12⟩ := Kd.cO HO_4.1; subst eo12; have p296 : 0 ≤ (x7_1 : Int) := dt_; have q296 : x7_1 < (t290.length : Int) := dt_; obtain ⟨ad296, e296, hx296_0, hx296_1, hx296_2, hx296_3⟩ := eZ (Kd.d9 HO_4.1).2.2 x7_1 p296 q296; cases e296; replace p296 := eq_true p296; replace q296 := eq_true q296; have hnb13 := NB289_295.1; have hnc13 := NB295_289.1; obtain ⟨hcz14_0, hcz14_1, hfz14_0, hfz14_1⟩ := cq2_ BK289.1
   go_wp2
   refine bodyPost_ret (eF rfl _ _ gb289 40 #[.int .i64 0, .int .i64 0] (0, 0) _ rfl (by exact gU (bk_ BK289.1)) Tryz.underlying40 rfl (by kernel_rfl)) rfl ?_; exact ⟨_, er_, rR_ (Kd.aQ (rf2_ gb289 (Kd.bu HO_6.1 BK289.1 (by decide))) (fun _ hk => trivial)), bl2_ HB.1 GE289.1 GE295.1⟩
  have c11b0 := beq_eq_false_iff_ne.mpr c11; have c11b1 := bne_iff_ne.mpr c11; replace H := bn_ H; obtain ⟨⟨t297, t298, t301, t302, t305, t306, t307, t308⟩, A15, H⟩ := H; (try dsimp only at H); replace H := (sp_ H).symm; obtain ⟨c16, H⟩ | ⟨c16, H⟩ := H
  ·
   have c16b0 := beq_eq_false_iff_ne.mpr c16; have c16b1 := bne_iff_ne.mpr c16; simp only [Option.some.injEq, Prod.mk.injEq] at H; obtain ⟨rfl, rfl, rfl⟩ := H; obtain ⟨Ao36, co36, eo36⟩ := Kd.cO HO_4.1; subst eo36; have p296 : 0 ≤ (x7_1 : Int) := dt_; have q296 : x7_1 < (t290.length : Int) := dt_; obtain ⟨ad296, e296, hx296_0, hx296_1, hx296_2, hx296_3⟩ := eZ (Kd.d9 HO_4.1).2.2 x7_1 p296 q296; cases e296; replace p296 := eq_true p296; replace q296 := eq_true q296
   try go_wp2_with (first | ((with_reducible refine aj (f := 35) rfl ?_); refine gk_ (some 29) Tryz.func35 (ak.calls k1 _ _ t290 x7_1 0 t297 t298 t301 t302 t305 t306 t307 t308 _ ?side1 ?side2 A15.1) ?_; (case side1 => repeat (first | exact (Kd.d9 HO_4.1).2.2 | (with_reducible refine Kd.dH ?_ _) | (with_reducible refine Kd.dG ?_ _) | (with_reducible refine Kd.fe ?_))); (case side2 => exact (Kd.d9 HO_4.1).2.1); rintro e w37 ⟨v299, v303, rfl, ho0, ho1, hb⟩; refine ⟨_, rfl, ?_⟩; refine gH (Kd.iZ (rR_ HO_4.1) (Kd.gY ho0) hb) (Kd.aQ (Kd.jv (Kd.jv (Kd.R_old (rR_ HO_6.1) hb) (Kd.gY ho0)) (Kd.gY ho1)) (fun _ h_ => h_.1)) (Kd.dB (Kd.gX ho0 (Kd.R_lt (rR_ HO_4.1))) (bH (bl2_ HB.1 GE289.1 GE295.1))) (Kd.dB (Kd.gX (Kd.gX ho1 (Kd.R_lt (rR_ HO_4.1))) (Kd.R_lt (rR_ HO_6.1))) (bH (bl2_ HB.1 GE289.1 GE295.1))) (bb_ BK289.1 hb) (bb_ BK295.1 hb) (ah (bl2_ HB.1 GE289.1 GE295.1) hb) ?_; clear hb HO_4 HO_6 BK289 BK295 HB; intro HO_4 HO_6 HO300 HO304 BK289 BK295 HB; (try clear ho0); (try clear ho1)) | ((with_reducible refine aA (N := 8) rfl ?_); refine bx_ (N := 8) (cs := #[.string (⟨#[]⟩ : ByteArray), .slice none 0 0, .bool false, .slice none 0 0, .int .i64 0]) (t := 25) ?_; intro gb309 hg w38 hbox hb; refine cut14_ (Kd.aW (rR_ HO_4.1) hb) (Kd.aW (Kd.eG (rR_ HO_6.1) gb309 (Nat.le_of_eq hg.symm)) hb) (Kd.aW (rR_ HO300.1) hb) (Kd.aW (Kd.eG (rR_ HO304.1) gb309 (Nat.le_of_eq hg.symm)) hb) (bb_ BK289.1 hb) (bb_ BK295.1 hb) (ah (bl2_ HB.1 GE289.1 GE295.1) hb) (hbox) (bz_ (w := w) hg (bl2_ HB.1 GE289.1 GE295.1)) (bz_ (w := w) hg (bl2_ HB.1 GE289.1 GE295.1)) (nl_ hg BK289.1) (ng_ hg BK289.1) (nl_ hg BK295.1) (ng_ hg BK295.1) ?_; clear HO_4 HO_6 HO300 HO304 BK289 BK295 HB; intro HO_4 HO_6 HO300 HO304 BK289 BK295 HB BK309 GW309 GE309 NB289_309 NB309_289 NB295_309 NB309_295; clear hb hbox hg) | ((with_reducible refine aA (N := 10) rfl ?_); refine bx_ (N := 10) (cs := #[.int .i64 0, .int .i64 0]) (t := 40) ?_; intro gb310 hg w39 hbox hb; refine cut17_ (Kd.aW (rR_ HO_4.1) hb) (Kd.aW (rR_ HO_6.1) hb) (Kd.aW (rR_ HO300.1) hb) (Kd.aW (rR_ HO304.1) hb) (bb_ BK289.1 hb) (bb_ BK295.1 hb) (bb_ BK309.1 hb) (ah (bl3_ HB.1 GE289.1 GE295.1 GE309.1) hb) (hbox) (bz_ (w := w) hg (bl3_ HB.1 GE289.1 GE295.1 GE309.1)) (bz_ (w := w) hg (bl3_ HB.1 GE289.1 GE295.1 GE309.1)) (nl_ hg BK289.1) (ng_ hg BK289.1) (nl_ hg BK295.1) (ng_ hg BK295.1) (nl_ hg BK309.1) (ng_ hg BK309.1) ?_; clear HO_4 HO_6 HO300 HO304 BK289 BK295 BK309 HB; intro HO_4 HO_6 HO300 HO304 BK289 BK295 BK309 HB BK310 GW310 GE310 NB289_310 NB310_289 NB295_310 NB310_295 NB309_310 NB310_309; clear hb hbox hg; have hnb40 := NB309_289.1; have hnc40 := NB289_309.1; have hnb41 := NB309_295.1; have hnc41 := NB295_309.1; have hnb42 := NB309_310.1; have hnc42 := NB310_309.1; obtain ⟨hcz43_0, hcz43_1, hcz43_2, hcz43_3, hcz43_4, hfz43_0, hfz43_1, hfz43_2, hfz43_3, hfz43_4⟩ := cq5_ BK309.1; obtain ⟨Ao44, co44, eo44⟩ := Kd.cO HO300.1; subst eo44; obtain ⟨Ao45, co45, eo45⟩ := Kd.cO HO304.1; subst eo45; have hnb46 := NB310_289.1; have hnc46 := NB289_310.1; have hnb47 := NB310_295.1; have hnc47 := NB295_310.1; obtain ⟨hcz48_0, hcz48_1, hfz48_0, hfz48_1⟩ := cq2_ BK310.1))
   have n0_ : af (Kd.R k46 50 (((((((w39.setCell ⟨gb309, 0, none⟩ (.string t297)).setCell ⟨gb309, 1, none⟩ (.slice Ao44 t298.length co44)).setCell ⟨gb309, 2, none⟩ (.bool t301)).setCell ⟨gb309, 3, none⟩ (.slice Ao45 t302.length co45)).setCell ⟨gb309, 4, none⟩ (.int .i64 t305)).setCell ⟨gb310, 0, none⟩ (.int .i64 t307)).setCell ⟨gb310, 1, none⟩ (.int .i64 t308)) w.heap.size (fun k_ => some k_ ≠ (.slice Ao44 t298.length co44 : Value).ownBlock) (.slice (some ad296) t290.length co36) t290) := ⟨rR_ (Kd.aQ (rf2_ gb310 (Kd.bR (p := ⟨gb309, 4, none⟩) (Kd.bR (p := ⟨gb309, 3, none⟩) (Kd.bR (p := ⟨gb309, 2, none⟩) (Kd.bR (p := ⟨gb309, 1, none⟩) (Kd.bR (p := ⟨gb309, 0, none⟩) (Kd.bu (Kd.bu HO_4.1 BK309.1 (by decide)) BK310.1 (by decide)) (fun _ hk => hk.1.2) (.string t297)) (fun _ hk => hk.1.2) (.slice Ao44 t298.length co44)) (fun _ hk => hk.1.2) (.bool t301)) (fun _ hk => hk.1.2) (.slice Ao45 t302.length co45)) (fun _ hk => hk.1.2) (.int .i64 t305))) (fun _ hk => hk.1.1.2))⟩; have n1_ : af (Kd.R k41 25 (((((((w39.setCell ⟨gb309, 0, none⟩ (.string t297)).setCell ⟨gb309, 1, none⟩ (.slice Ao44 t298.length co44)).setCell ⟨gb309, 2, none⟩ (.bool t301)).setCell ⟨gb309, 3, none⟩ (.slice Ao45 t302.length co45)).setCell ⟨gb309, 4, none⟩ (.int .i64 t305)).setCell ⟨gb310, 0, none⟩ (.int .i64 t307)).setCell ⟨gb310, 1, none⟩ (.int .i64 t308)) w.heap.size (fun k_ => some k_ ≠ (.slice (some ad296) t290.length co36 : Value).ownBlock ∧ some k_ ≠ (.slice Ao44 t298.length co44 : Value).ownBlock ∧ some k_ ≠ (.slice Ao45 t302.length co45 : Value).ownBlock ∧ k_ ≠ gb309) u6 x6_1) := ⟨by (with_reducible repeat (first | apply Kd.gP | apply Kd.gN | apply Kd.dU)); exact Kd.aQ (rf2_ gb310 (Kd.bR (p := ⟨gb309, 4, none⟩) (Kd.bR (p := ⟨gb309, 3, none⟩) (Kd.bR (p := ⟨gb309, 2, none⟩) (Kd.bR (p := ⟨gb309, 1, none⟩) (Kd.bR (p := ⟨gb309, 0, none⟩) (Kd.bu (Kd.aQ HO_6.1 (fun k_ hk => (⟨hk, hk.2⟩ : _ ∧ k_ ≠ gb309))) BK310.1 (by decide)) (fun _ hk => hk.1.2) (.string t297)) (fun _ hk => hk.1.2) (.slice Ao44 t298.length co44)) (fun _ hk => hk.1.2) (.bool t301)) (fun _ hk => hk.1.2) (.slice Ao45 t302.length co45)) (fun _ hk => hk.1.2) (.int .i64 t305))) (fun _ hk => ⟨hk.1.1.1.1.1, ⟨hk.1.1.1.1.2, ⟨hk.1.1.1.2, hk.1.1.2⟩⟩⟩)⟩; have n2_ : af (Kd.R k46 50 (((((((w39.setCell ⟨gb309, 0, none⟩ (.string t297)).setCell ⟨gb309, 1, none⟩ (.slice Ao44 t298.length co44)).setCell ⟨gb309, 2, none⟩ (.bool t301)).setCell ⟨gb309, 3, none⟩ (.slice Ao45 t302.length co45)).setCell ⟨gb309, 4, none⟩ (.int .i64 t305)).setCell ⟨gb310, 0, none⟩ (.int .i64 t307)).setCell ⟨gb310, 1, none⟩ (.int .i64 t308)) w.heap.size (fun k_ => some k_ ≠ (.slice (some ad296) t290.length co36 : Value).ownBlock) (.slice Ao44 t298.length co44) t298) := ⟨rR_ (Kd.aQ (rf2_ gb310 (Kd.bR (p := ⟨gb309, 4, none⟩) (Kd.bR (p := ⟨gb309, 3, none⟩) (Kd.bR (p := ⟨gb309, 2, none⟩) (Kd.bR (p := ⟨gb309, 1, none⟩) (Kd.bR (p := ⟨gb309, 0, none⟩) (Kd.bu (Kd.bu HO300.1 BK309.1 (by decide)) BK310.1 (by decide)) (fun _ hk => hk.1.2) (.string t297)) (fun _ hk => hk.1.2) (.slice Ao44 t298.length co44)) (fun _ hk => hk.1.2) (.bool t301)) (fun _ hk => hk.1.2) (.slice Ao45 t302.length co45)) (fun _ hk => hk.1.2) (.int .i64 t305))) (fun _ hk => hk.1.1.2))⟩; have n3_ : af (Kd.R k41 25 (((((((w39.setCell ⟨gb309, 0, none⟩ (.string t297)).setCell ⟨gb309, 1, none⟩ (.slice Ao44 t298.length co44)).setCell ⟨gb309, 2, none⟩ (.bool t301)).setCell ⟨gb309, 3, none⟩ (.slice Ao45 t302.length co45)).setCell ⟨gb309, 4, none⟩ (.int .i64 t305)).setCell ⟨gb310, 0, none⟩ (.int .i64 t307)).setCell ⟨gb310, 1, none⟩ (.int .i64 t308)) w.heap.size (fun k_ => some k_ ≠ (.slice (some ad296) t290.length co36 : Value).ownBlock ∧ some k_ ≠ (u6 : Value).ownBlock ∧ some k_ ≠ (.slice Ao44 t298.length co44 : Value).ownBlock ∧ k_ ≠ gb309) (.slice Ao45 t302.length co45) t302) := ⟨by (with_reducible repeat (first | apply Kd.gP | apply Kd.gN | apply Kd.dU)); exact Kd.aQ (rf2_ gb310 (Kd.bR (p := ⟨gb309, 4, none⟩) (Kd.bR (p := ⟨gb309, 3, none⟩) (Kd.bR (p := ⟨gb309, 2, none⟩) (Kd.bR (p := ⟨gb309, 1, none⟩) (Kd.bR (p := ⟨gb309, 0, none⟩) (Kd.bu (Kd.aQ HO304.1 (fun k_ hk => (⟨hk, hk.2⟩ : _ ∧ k_ ≠ gb309))) BK310.1 (by decide)) (fun _ hk => hk.1.2) (.string t297)) (fun _ hk => hk.1.2) (.slice Ao44 t298.length co44)) (fun _ hk => hk.1.2) (.bool t301)) (fun _ hk => hk.1.2) (.slice Ao45 t302.length co45)) (fun _ hk => hk.1.2) (.int .i64 t305))) (fun _ hk => ⟨hk.1.1.1.1.2, ⟨hk.1.1.1.2, ⟨hk.1.1.1.1.1, hk.1.1.2⟩⟩⟩)⟩; have n4_ : af ((((((((w39.setCell ⟨gb309, 0, none⟩ (.string t297)).setCell ⟨gb309, 1, none⟩ (.slice Ao44 t298.length co44)).setCell ⟨gb309, 2, none⟩ (.bool t301)).setCell ⟨gb309, 3, none⟩ (.slice Ao45 t302.length co45)).setCell ⟨gb309, 4, none⟩ (.int .i64 t305)).setCell ⟨gb310, 0, none⟩ (.int .i64 t307)).setCell ⟨gb310, 1, none⟩ (.int .i64 t308)).heap[gb289]? = some (.cells #[.int .i64 x290000_1, .int .i64 x290001_1] 40 (0, 0))) := ⟨dC (iy (bk_ BK289.1) NB289_309.1) NB289_310.1⟩; have n5_ : af ((((((((w39.setCell ⟨gb309, 0, none⟩ (.string t297)).setCell ⟨gb309, 1, none⟩ (.slice Ao44 t298.length co44)).setCell ⟨gb309, 2, none⟩ (.bool t301)).setCell ⟨gb309, 3, none⟩ (.slice Ao45 t302.length co45)).setCell ⟨gb309, 4, none⟩ (.int .i64 t305)).setCell ⟨gb310, 0, none⟩ (.int .i64 t307)).setCell ⟨gb310, 1, none⟩ (.int .i64 t308)).heap[gb295]? = some (.cells #[.int .i64 t293, .int .i64 t294] 40 (0, 0))) := ⟨dC (iy (bk_ BK295.1) NB295_309.1) NB295_310.1⟩; have n6_ : af ((((((((w39.setCell ⟨gb309, 0, none⟩ (.string t297)).setCell ⟨gb309, 1, none⟩ (.slice Ao44 t298.length co44)).setCell ⟨gb309, 2, none⟩ (.bool t301)).setCell ⟨gb309, 3, none⟩ (.slice Ao45 t302.length co45)).setCell ⟨gb309, 4, none⟩ (.int .i64 t305)).setCell ⟨gb310, 0, none⟩ (.int .i64 t307)).setCell ⟨gb310, 1, none⟩ (.int .i64 t308)).heap[gb309]? = some (.cells #[.string t297, .slice Ao44 t298.length co44, .bool t301, .slice Ao45 t302.length co45, .int .i64 t305] 25 (0, 0))) := ⟨dC (ik (bk_ BK309.1)) NB309_310.1⟩; have n7_ : af ((((((((w39.setCell ⟨gb309, 0, none⟩ (.string t297)).setCell ⟨gb309, 1, none⟩ (.slice Ao44 t298.length co44)).setCell ⟨gb309, 2, none⟩ (.bool t301)).setCell ⟨gb309, 3, none⟩ (.slice Ao45 t302.length co45)).setCell ⟨gb309, 4, none⟩ (.int .i64 t305)).setCell ⟨gb310, 0, none⟩ (.int .i64 t307)).setCell ⟨gb310, 1, none⟩ (.int .i64 t308)).heap[gb310]? = some (.cells #[.int .i64 t307, .int .i64 t308] 40 (0, 0))) := ⟨by refine aU (cs := #[.int .i64 t307, .int .i64 0]) ?_ 1 _ rfl; refine aU (cs := #[.int .i64 0, .int .i64 0]) ?_ 0 _ rfl; exact iy (bk_ BK310.1) NB310_309.1⟩; have n8_ : af (Below w.heap.size w (((((((w39.setCell ⟨gb309, 0, none⟩ (.string t297)).setCell ⟨gb309, 1, none⟩ (.slice Ao44 t298.length co44)).setCell ⟨gb309, 2, none⟩ (.bool t301)).setCell ⟨gb309, 3, none⟩ (.slice Ao45 t302.length co45)).setCell ⟨gb309, 4, none⟩ (.int .i64 t305)).setCell ⟨gb310, 0, none⟩ (.int .i64 t307)).setCell ⟨gb310, 1, none⟩ (.int .i64 t308))) := ⟨bl4_ HB.1 GE289.1 GE295.1 GE309.1 GE310.1⟩; (try clear HO_4); (try clear HO_6); (try clear HO300); (try clear HO304); (try clear BK289); (try clear BK295); (try clear BK309); (try clear BK310); (try clear HB); generalize (((((((w39.setCell ⟨gb309, 0, none⟩ (.string t297)).setCell ⟨gb309, 1, none⟩ (.slice Ao44 t298.length co44)).setCell ⟨gb309, 2, none⟩ (.bool t301)).setCell ⟨gb309, 3, none⟩ (.slice Ao45 t302.length co45)).setCell ⟨gb309, 4, none⟩ (.int .i64 t305)).setCell ⟨gb310, 0, none⟩ (.int .i64 t307)).setCell ⟨gb310, 1, none⟩ (.int .i64 t308)) = w49 at n0_ n1_ n2_ n3_ n4_ n5_ n6_ n7_ n8_ ⊢; have HO_4 := n0_; have HO_6 := n1_; have HO300 := n2_; have HO304 := n3_; have BK289 := n4_; have BK295 := n5_; have BK309 := n6_; have BK310 := n7_; have HB := n8_; clear n0_ n1_ n2_ n3_ n4_ n5_ n6_ n7_ n8_; refine cut9_ (Kd.dU HO_4.1) (Kd.dU HO_6.1) (Kd.dU HO300.1) (Kd.dU HO304.1) (bI BK289.1) (bI BK295.1) (bI BK309.1) (bI BK310.1) (bD HB.1) ?_; clear HO_4 HO_6 HO300 HO304 BK289 BK295 BK309 BK310 HB; intro HO_4 HO_6 HO300 HO304 BK289 BK295 BK309 BK310 HB; refine dX (n := 3) (S := fun w' => w'.cell? ⟨gb310, 0, none⟩ = some (.int .i64 t307) ∧ w'.cell? ⟨gb310, 1, none⟩ = some (.int .i64 t308)) (ds := []) #[false, false, false] (by kernel_rfl) rfl rfl ⟨ce_ BK310.1 0, ce_ BK310.1 1⟩ (fun hHeld => ?_); generalize w49.drew = w50 at HO_4 HO_6 HO300 HO304 BK289 BK295 BK309 BK310 HB hHeld ⊢; refine pr_ (i := 1) (N := some 2) #[false, true, false] (by kernel_rfl) ?_; refine take_ (i := 0) (N := some 36) (v := ?_) (a' := ?_) #[true, true, false] rfl rfl (by kernel_rfl) (fun _ _ _ h => h) (Or.inl ⟨by rfl, ?_⟩) hHeld ?_ ?_; rotate_left
   ·
    rintro w' ⟨s0, s1⟩; go_simp
    with_reducible rfl
   rotate_left
   ·
    simp only [Act.put, List.setIfInBounds_toArray, List.set_cons_zero, List.set_cons_succ, cz, cK]
    rfl
   refine one_ (i := 2) (N := none) #[true, true, true] rfl rfl (by kernel_rfl) (by decide) (fun K hK => ?_); have hs51 : w50.cell? ⟨gb289, 0, none⟩ = some (.int .i64 x290000_1) := (ax BK289.1 0).trans rfl; have hfs51 := aC BK289.1 0; have hns51_1 := NB295_289.1; have hns51_2 := NB309_289.1; have hns51_3 := NB310_289.1; have hms51_1 := NB289_295.1; have hms51_2 := NB289_309.1; have hms51_3 := NB289_310.1; have hs52 : w50.cell? ⟨gb289, 1, none⟩ = some (.int .i64 x290001_1) := (ax BK289.1 1).trans rfl; have hfs52 := aC BK289.1 1; have hns52_1 := NB295_289.1; have hns52_2 := NB309_289.1; have hns52_3 := NB310_289.1; have hms52_1 := NB289_295.1; have hms52_2 := NB289_309.1; have hms52_3 := NB289_310.1; refine sk_ ?_; refine hK.out _ _ ⟨(cf2_ gb289 NB310_289.1 hHeld.1), (cf2_ gb289 NB310_289.1 hHeld.2)⟩ (fun hHeld => ?_); clear hK K; refine gB (by kernel_rfl) ?_
   try go_wp2
   refine bodyPost_ret (eF rfl _ _ gb289 40 #[.int .i64 t307, .int .i64 t308] (0, 0) _ rfl (by exact gU (bk_ BK289.1)) Tryz.underlying40 rfl (by kernel_rfl)) rfl ?_; exact ⟨_, er_, ni_, bl4_ HB.1 GE289.1 GE295.1 GE309.1 GE310.1⟩
  have c16b0 := beq_iff_eq.mpr c16; have c16b1 := bne_eq_false_iff_eq.mpr c16; clear c16; replace H := gp_ H; obtain ⟨c17, H⟩ := H; have LMc17 := af.mk c17; clear c17; obtain ⟨y311, hy311⟩ : ∃ y_ : List (S41), y_ = (x6_1 ++ [(⟨t297, t298, t301, t302, t305⟩ : S41)]) := ⟨_, rfl⟩; replace H : (bn.l0 k1 t290 y311 t306) = some (r1, r2, r3) := by first | (rw [hy311]; with_reducible exact H) | (have H2_ := (Option.bind_some _ _).symm.trans H; rw [hy311]; with_reducible exact H2_) | (have H2_ := (Option.bind_some _ _).symm.trans H; with_reducible exact H2_) | with_reducible exact H | (rw [hy311]; exact H) | exact H
  have Ny311 := af.mk hy311; clear hy311; have H' := af.mk H; clear H; obtain ⟨Ao18, co18, eo18⟩ := Kd.cO HO_4.1; subst eo18; have p296 : 0 ≤ (x7_1 : Int) := dt_; have q296 : x7_1 < (t290.length : Int) := dt_; obtain ⟨ad296, e296, hx296_0, hx296_1, hx296_2, hx296_3⟩ := eZ (Kd.d9 HO_4.1).2.2 x7_1 p296 q296; cases e296; replace p296 := eq_true p296; replace q296 := eq_true q296
  go_wp2_with (first | ((with_reducible refine aj (f := 35) rfl ?_); refine gk_ (some 29) Tryz.func35 (ak.calls k1 _ _ t290 x7_1 0 t297 t298 t301 t302 t305 t306 t307 t308 _ ?side1 ?side2 A15.1) ?_; (case side1 => repeat (first | exact (Kd.d9 HO_4.1).2.2 | (with_reducible refine Kd.dH ?_ _) | (with_reducible refine Kd.dG ?_ _) | (with_reducible refine Kd.fe ?_))); (case side2 => exact (Kd.d9 HO_4.1).2.1); rintro e w19 ⟨v299, v303, rfl, ho0, ho1, hb⟩; refine ⟨_, rfl, ?_⟩; refine gH (Kd.iZ (rR_ HO_4.1) (Kd.gY ho0) hb) (Kd.aQ (Kd.jv (Kd.jv (Kd.R_old (rR_ HO_6.1) hb) (Kd.gY ho0)) (Kd.gY ho1)) (fun _ h_ => h_.1)) (Kd.dB (Kd.gX ho0 (Kd.R_lt (rR_ HO_4.1))) (bH (bl2_ HB.1 GE289.1 GE295.1))) (Kd.dB (Kd.gX (Kd.gX ho1 (Kd.R_lt (rR_ HO_4.1))) (Kd.R_lt (rR_ HO_6.1))) (bH (bl2_ HB.1 GE289.1 GE295.1))) (bb_ BK289.1 hb) (bb_ BK295.1 hb) (ah (bl2_ HB.1 GE289.1 GE295.1) hb) ?_; clear hb HO_4 HO_6 BK289 BK295 HB; intro HO_4 HO_6 HO300 HO304 BK289 BK295 HB; (try clear ho0); (try clear ho1)) | ((with_reducible refine aA (N := 8) rfl ?_); refine bx_ (N := 8) (cs := #[.string (⟨#[]⟩ : ByteArray), .slice none 0 0, .bool false, .slice none 0 0, .int .i64 0]) (t := 25) ?_; intro gb309 hg w20 hbox hb; refine cut14_ (Kd.aW (rR_ HO_4.1) hb) (Kd.aW (Kd.eG (rR_ HO_6.1) gb309 (Nat.le_of_eq hg.symm)) hb) (Kd.aW (rR_ HO300.1) hb) (Kd.aW (Kd.eG (rR_ HO304.1) gb309 (Nat.le_of_eq hg.symm)) hb) (bb_ BK289.1 hb) (bb_ BK295.1 hb) (ah (bl2_ HB.1 GE289.1 GE295.1) hb) (hbox) (bz_ (w := w) hg (bl2_ HB.1 GE289.1 GE295.1)) (bz_ (w := w) hg (bl2_ HB.1 GE289.1 GE295.1)) (nl_ hg BK289.1) (ng_ hg BK289.1) (nl_ hg BK295.1) (ng_ hg BK295.1) ?_; clear HO_4 HO_6 HO300 HO304 BK289 BK295 HB; intro HO_4 HO_6 HO300 HO304 BK289 BK295 HB BK309 GW309 GE309 NB289_309 NB309_289 NB295_309 NB309_295; clear hb hbox hg) | ((with_reducible refine aA (N := 10) rfl ?_); refine bx_ (N := 10) (cs := #[.int .i64 0, .int .i64 0]) (t := 40) ?_; intro gb310 hg w21 hbox hb; refine cut17_ (Kd.aW (rR_ HO_4.1) hb) (Kd.aW (rR_ HO_6.1) hb) (Kd.aW (rR_ HO300.1) hb) (Kd.aW (rR_ HO304.1) hb) (bb_ BK289.1 hb) (bb_ BK295.1 hb) (bb_ BK309.1 hb) (ah (bl3_ HB.1 GE289.1 GE295.1 GE309.1) hb) (hbox) (bz_ (w := w) hg (bl3_ HB.1 GE289.1 GE295.1 GE309.1)) (bz_ (w := w) hg (bl3_ HB.1 GE289.1 GE295.1 GE309.1)) (nl_ hg BK289.1) (ng_ hg BK289.1) (nl_ hg BK295.1) (ng_ hg BK295.1) (nl_ hg BK309.1) (ng_ hg BK309.1) ?_; clear HO_4 HO_6 HO300 HO304 BK289 BK295 BK309 HB; intro HO_4 HO_6 HO300 HO304 BK289 BK295 BK309 HB BK310 GW310 GE310 NB289_310 NB310_289 NB295_310 NB310_295 NB309_310 NB310_309; clear hb hbox hg; have hnb22 := NB309_289.1; have hnc22 := NB289_309.1; have hnb23 := NB309_295.1; have hnc23 := NB295_309.1; have hnb24 := NB309_310.1; have hnc24 := NB310_309.1; obtain ⟨hcz25_0, hcz25_1, hcz25_2, hcz25_3, hcz25_4, hfz25_0, hfz25_1, hfz25_2, hfz25_3, hfz25_4⟩ := cq5_ BK309.1; obtain ⟨Ao26, co26, eo26⟩ := Kd.cO HO300.1; subst eo26; obtain ⟨Ao27, co27, eo27⟩ := Kd.cO HO304.1; subst eo27) | ((with_reducible refine fD (t := 25) (p := 8) rfl ?_); refine st_ (t := 25) (p := 8) (w1 := (((((w21.setCell ⟨gb309, 0, none⟩ (.string t297)).setCell ⟨gb309, 1, none⟩ (.slice Ao26 t298.length co26)).setCell ⟨gb309, 2, none⟩ (.bool t301)).setCell ⟨gb309, 3, none⟩ (.slice Ao27 t302.length co27)).setCell ⟨gb309, 4, none⟩ (.int .i64 t305))) ?_; intro w28 hw; refine cut9_ ((by rw [hw]; exact rR_ (Kd.aQ (rf5_ gb309 (Kd.bu HO_4.1 BK309.1 (by decide))) (fun _ hk => hk.1.2)) : Kd.R k46 50 w28 w.heap.size (fun k_ => some k_ ≠ (.slice Ao26 t298.length co26 : Value).ownBlock) (.slice (some ad296) t290.length co18) t290)) ((by rw [hw]; exact (by (with_reducible repeat (first | apply Kd.gP | apply Kd.gN | apply Kd.dU)); exact Kd.aQ (rf5_ gb309 (Kd.aQ HO_6.1 (fun k_ hk => (⟨hk, hk.2⟩ : _ ∧ k_ ≠ gb309)))) (fun _ hk => ⟨hk.1.1.1.1, ⟨hk.1.1.1.2, ⟨hk.1.1.2, hk.1.2⟩⟩⟩)) : Kd.R k41 25 w28 w.heap.size (fun k_ => some k_ ≠ (.slice (some ad296) t290.length co18 : Value).ownBlock ∧ some k_ ≠ (.slice Ao26 t298.length co26 : Value).ownBlock ∧ some k_ ≠ (.slice Ao27 t302.length co27 : Value).ownBlock ∧ k_ ≠ gb309) u6 x6_1)) ((by rw [hw]; exact rR_ (Kd.aQ (rf5_ gb309 (Kd.bu HO300.1 BK309.1 (by decide))) (fun _ hk => hk.1.2)) : Kd.R k46 50 w28 w.heap.size (fun k_ => some k_ ≠ (.slice (some ad296) t290.length co18 : Value).ownBlock) (.slice Ao26 t298.length co26) t298)) ((by rw [hw]; exact (by (with_reducible repeat (first | apply Kd.gP | apply Kd.gN | apply Kd.dU)); exact Kd.aQ (rf5_ gb309 (Kd.aQ HO304.1 (fun k_ hk => (⟨hk, hk.2⟩ : _ ∧ k_ ≠ gb309)))) (fun _ hk => ⟨hk.1.1.1.2, ⟨hk.1.1.2, ⟨hk.1.1.1.1, hk.1.2⟩⟩⟩)) : Kd.R k41 25 w28 w.heap.size (fun k_ => some k_ ≠ (.slice (some ad296) t290.length co18 : Value).ownBlock ∧ some k_ ≠ (u6 : Value).ownBlock ∧ some k_ ≠ (.slice Ao26 t298.length co26 : Value).ownBlock ∧ k_ ≠ gb309) (.slice Ao27 t302.length co27) t302)) (bw_ hw (iy (bk_ BK289.1) NB289_309.1)) (bw_ hw (iy (bk_ BK295.1) NB295_309.1)) (bw_ hw (ik (bk_ BK309.1))) (bw_ hw (iy (bk_ BK310.1) NB310_309.1)) (bW_ hw (bl4_ HB.1 GE289.1 GE295.1 GE309.1 GE310.1)) ?_; clear hw HO_4 HO_6 HO300 HO304 BK289 BK295 BK309 BK310 HB; intro HO_4 HO_6 HO300 HO304 BK289 BK295 BK309 BK310 HB; have hnb29 := NB310_289.1; have hnc29 := NB289_310.1; have hnb30 := NB310_295.1; have hnc30 := NB295_310.1; obtain ⟨hcz31_0, hcz31_1, hfz31_0, hfz31_1⟩ := cq2_ BK310.1) | ((with_reducible refine fD (t := 40) (p := 10) rfl ?_); refine st_ (t := 40) (p := 10) (w1 := ((w28.setCell ⟨gb310, 0, none⟩ (.int .i64 t307)).setCell ⟨gb310, 1, none⟩ (.int .i64 t308))) ?_; intro w32 hw; refine cut9_ ((by rw [hw]; exact rR_ (Kd.aQ (rf2_ gb310 (Kd.bu HO_4.1 BK310.1 (by decide))) (fun _ hk => hk.1)) : Kd.R k46 50 w32 w.heap.size (fun k_ => some k_ ≠ (.slice Ao26 t298.length co26 : Value).ownBlock) (.slice (some ad296) t290.length co18) t290)) ((by rw [hw]; exact (by (with_reducible repeat (first | apply Kd.gP | apply Kd.gN | apply Kd.dU)); exact Kd.aQ (rf2_ gb310 (Kd.bu HO_6.1 BK310.1 (by decide))) (fun _ hk => ⟨hk.1.1, ⟨hk.1.2.1, ⟨hk.1.2.2.1, hk.1.2.2.2⟩⟩⟩)) : Kd.R k41 25 w32 w.heap.size (fun k_ => some k_ ≠ (.slice (some ad296) t290.length co18 : Value).ownBlock ∧ some k_ ≠ (.slice Ao26 t298.length co26 : Value).ownBlock ∧ some k_ ≠ (.slice Ao27 t302.length co27 : Value).ownBlock ∧ k_ ≠ gb309) u6 x6_1)) ((by rw [hw]; exact rR_ (Kd.aQ (rf2_ gb310 (Kd.bu HO300.1 BK310.1 (by decide))) (fun _ hk => hk.1)) : Kd.R k46 50 w32 w.heap.size (fun k_ => some k_ ≠ (.slice (some ad296) t290.length co18 : Value).ownBlock) (.slice Ao26 t298.length co26) t298)) ((by rw [hw]; exact (by (with_reducible repeat (first | apply Kd.gP | apply Kd.gN | apply Kd.dU)); exact Kd.aQ (rf2_ gb310 (Kd.bu HO304.1 BK310.1 (by decide))) (fun _ hk => ⟨hk.1.1, ⟨hk.1.2.1, ⟨hk.1.2.2.1, hk.1.2.2.2⟩⟩⟩)) : Kd.R k41 25 w32 w.heap.size (fun k_ => some k_ ≠ (.slice (some ad296) t290.length co18 : Value).ownBlock ∧ some k_ ≠ (u6 : Value).ownBlock ∧ some k_ ≠ (.slice Ao26 t298.length co26 : Value).ownBlock ∧ k_ ≠ gb309) (.slice Ao27 t302.length co27) t302)) (bw_ hw (dC (bk_ BK289.1) NB289_310.1)) (bw_ hw (dC (bk_ BK295.1) NB295_310.1)) (bw_ hw (dC (bk_ BK309.1) NB309_310.1)) (bw_ hw (gU (bk_ BK310.1))) (bW_ hw (bl4_ HB.1 GE289.1 GE295.1 GE309.1 GE310.1)) ?_; clear hw HO_4 HO_6 HO300 HO304 BK289 BK295 BK309 BK310 HB; intro HO_4 HO_6 HO300 HO304 BK289 BK295 BK309 BK310 HB; obtain ⟨hcz33_0, hcz33_1, hfz33_0, hfz33_1⟩ := cq2_ BK310.1; obtain ⟨hcz34_0, hcz34_1, hcz34_2, hcz34_3, hcz34_4, hfz34_0, hfz34_1, hfz34_2, hfz34_3, hfz34_4⟩ := cq5_ BK309.1) | ((with_reducible refine fw (b := .append) (xs := #[.tmp 37, .tmp 39]) rfl ?_); at_builtin; refine Kd.iD k41 (w0 := w) w.heap.size rfl (.tmp 37) (.tmp 39) 23 25 (.agg #[(.string ⟨#[]⟩), (.slice none 0 0), (.bool false), (.slice none 0 0), (.int .i64 0)]) 80 rfl Tryz.underlying23 info41 rfl (by decide) (by omega) u6 x6_1 (⟨t297, t298, t301, t302, t305⟩ : S41) [.string t297, .slice Ao26 t298.length co26, .bool t301, .slice Ao27 t302.length co27, .int .i64 t305] (fun k_ => some k_ ≠ (.slice (some ad296) t290.length co18 : Value).ownBlock ∧ k_ ≠ gb309) (fun k_ => ((fun k_ => some k_ ≠ (.slice (some ad296) t290.length co18 : Value).ownBlock ∧ k_ ≠ gb309)) k_ ∧ some k_ ≠ (u6 : Value).ownBlock) rfl rfl ?aP (fun _ hk => hk) ?aF ?aO ?aB ?aS ?aL ?_; (case aP => exact k41_mkM _ _ _ (⟨t297, t298, t301, t302, t305⟩ : S41) (Kd.aQ (Kd.bu (Kd.kS (HO300.1) (Kd.kH HO_6.1) (by decide)) BK309.1 (by decide)) (fun k_ hk => ⟨⟨hk.1.1, hk.2⟩, hk.1.2⟩)) (Kd.aQ (HO304.1) (fun k_ hk => ⟨⟨hk.1, hk.2.2.2⟩, hk.2.1⟩))); (case aB => exact (bl4_ HB.1 GE289.1 GE295.1 GE309.1 GE310.1)); (case aF => exact (fun k_ hk => ⟨Kd.fresh' (Kd.R_lt (rR_ HO_4.1)) k_ hk, Kd.jq (g := gb309) (o := .cells #[.string t297, .slice Ao26 t298.length co26, .bool t301, .slice Ao27 t302.length co27, .int .i64 t305] 25 (0, 0)) (bk_ BK309.1) k_ hk⟩)); (case aO => exact (by (with_reducible repeat (first | apply Kd.gP | apply Kd.gN | apply Kd.dU)); exact Kd.aQ HO_6.1 (fun _ hk => ⟨hk.1, hk.2.2.2⟩))); (case aS => exact (bH (bl4_ HB.1 GE289.1 GE295.1 GE309.1 GE310.1))); (case aL => have := LMc17.1; omega); intro v312 w35 ho hb hg hat; rw [← Ny311.1] at ho; refine gH (Kd.R_over' (rR_ HO_4.1) (Kd.kH (rR_ HO_6.1)) (by decide) hg) (bX (g := gb289) (o := .cells #[.int .i64 x290000_1, .int .i64 x290001_1] 40 (0, 0)) (bk_ BK289.1) hg (Kd.R_ne HO_6.1 BK289.1 (by decide))) (bX (g := gb295) (o := .cells #[.int .i64 t293, .int .i64 t294] 40 (0, 0)) (bk_ BK295.1) hg (Kd.R_ne HO_6.1 BK295.1 (by decide))) (bX (g := gb309) (o := .cells #[.string t297, .slice Ao26 t298.length co26, .bool t301, .slice Ao27 t302.length co27, .int .i64 t305] 25 (0, 0)) (bk_ BK309.1) hg (Kd.jQ HO_6.1 (fun _ hk => hk.2.2.2))) (bX (g := gb310) (o := .cells #[.int .i64 t307, .int .i64 t308] 40 (0, 0)) (bk_ BK310.1) hg (Kd.R_ne HO_6.1 BK310.1 (by decide))) (hb) (ho) ?_; clear HO_4 BK289 BK295 BK309 BK310 HB HO_6 HO300 HO304; intro HO_4 BK289 BK295 BK309 BK310 HB HO313; clear ho hb hg hat))
  go_roundg k1
  case measure => have := HK1.1; omega
  case rel => exact ⟨(y311), (t306), (x290000_1), (x290001_1), sr_, H', ⟨om_ HK1.1⟩, ⟨rR_ (Kd.aQ HO_4.1 (fun _ hk => trivial))⟩, ⟨rR_ (Kd.aQ HO313.1 (fun _ hk => hk.1))⟩, ⟨bk_ BK289.1⟩, ⟨bk_ BK295.1⟩, ⟨bl4_ HB.1 GE289.1 GE295.1 GE309.1 GE310.1⟩⟩
end Go.Proofs.YtkifdadhojbohaaGreatDoor.Pr
namespace Go.Proofs.YtkifdadhojbohaaGreatDoor.Pu
open Go.RowKit Go.Proofs.YtkifdadhojbohaaGreatDoor Go.Proofs.YtkifdadhojbohaaGreatDoor.Pr Go.Proofs.YtkifdadhojbohaaGreatDoorW.PrintWords Go.Proofs.YtkifdadhojbohaaGreatDoorW.PrintLast Go.Proofs.YtkifdadhojbohaaGreatDoorW.PrintMore
theorem gT (t : S46) (c : UInt8) : bg.f t.f0 t.f1 t.f2 t.f3 (⟨#[c]⟩ : ByteArray) = some (isS t c) := by
  unfold bg.f isS
  rw [dx, dx]
  by_cases h : t.f0 = 4
  · rw [if_pos h, h]; rfl
  · rw [if_neg h]; simp [h]
theorem jB (t : S46) : dm.f t.f0 t.f1 t.f2 t.f3 = some (isA t) := by
  unfold dm.f isA
  rw [gT, gT, gT]
  by_cases h : t.f0 = 5
  · rw [if_pos h]; simp [h]
  · rw [if_neg h]
    cases h1 : isS t 59 <;> cases h2 : isS t 123 <;> cases h3 : isS t 125 <;> simp [h]
abbrev EY := ByteArray × List S46 × Bool × List S41 × Int × Int × Int × Int
abbrev EY.c (b : EY) : S41 := ⟨b.1, b.2.1, b.2.2.1, b.2.2.2.1, b.2.2.2.2.1⟩
theorem iE {T : List S46} {i : Nat} {ats r : List S46} (h : T.drop i = ats ++ r) : T.drop (i + ats.length) = r := by
  rw [← List.drop_drop, h, List.drop_left]
theorem iq {a b : Nat} (h : a < b) : (a : Int) < (b : Int) := by omega
theorem rentry_atoms (L : List S46) (hL : L.length ≤ 900000) (o : Int) (w : ByteArray) (at_ : Int) (y : EY) :
    ∀ (ats : List S46) (j : Nat) (acc : List S46) (u : S46) (r : List S46), L.drop j = ats ++ u :: r → (∀ a ∈ ats, isA a = true) → acc.length ≤ j →
      Ev (fun k => ak.l0 k L ((j + ats.length : Nat) : Int) o w (acc ++ ats) false at_) y → Ev (fun k => ak.l0 k L (j : Int) o w acc false at_) y := by
  intro ats
  induction ats with
  | nil => intro j acc u r h1 h2 h3 h; simpa using h
  | cons a ats ih =>
    intro j acc u r h1 h2 h3 h
    obtain ⟨g1, g2, g3⟩ := eP h1
    refine Ev.succ ?_
    simp only [ak.l0, g2, jB, h2 a (by simp)]
    refine Ev.ifp natO (Ev.ifp (iq g1) (Ev.val rfl (Ev.ifp rfl (Ev.ifp (by omega) ?_))))
    rw [bU j (by omega)]
    refine ih (j + 1) (acc ++ [a]) u r g3 (fun x hx => h2 x (by simp [hx])) (by simp; omega) ?_
    have e1 : j + 1 + ats.length = j + (a :: ats).length := by simp; omega
    have e2 : acc ++ [a] ++ ats = acc ++ a :: ats := by simp
    rw [e1, e2]
    exact h
theorem ji (L : List S46) (hL : L.length ≤ 900000) (o : Int) (i : Nat) (t : S46) (ats : List S46) (u : S46) (r : List S46) (h1 : L.drop i = t :: (ats ++ u :: r)) (ht : t.f0 = 1) (h2 : ∀ a ∈ ats, isA a = true) (y : EY)
    (h : Ev (fun k => ak.l0 k L ((i + 1 + ats.length : Nat) : Int) o t.f1 ats false t.f3) y) : Ev (fun k => ak.f k L (i : Int) o) y := by
  obtain ⟨g1, g2, g3⟩ := eP h1
  refine Ev.succ ?_
  simp only [ak.f, g2]
  refine Ev.ifp natO (Ev.ifp (iq g1) (Ev.ifp ht ?_))
  rw [bU i (by omega)]
  refine rentry_atoms L hL o t.f1 t.f3 y ats (i + 1) [] u r g3 h2 (by simp) ?_
  simpa using h
theorem rentry_no (L : List S46) (o : Int) (i : Nat) (t : S46) (r : List S46) (h1 : L.drop i = t :: r) (ht : t.f0 ≠ 1) : Ev (fun k => ak.f k L (i : Int) o) (t.f1, [], false, [], t.f3, (i : Int), 2, t.f3) := by
  obtain ⟨g1, g2, g3⟩ := eP h1
  refine Ev.succ ?_
  simp only [ak.f, g2]
  exact Ev.ifp natO (Ev.ifp (iq g1) (Ev.ifn ht (Ev.now _)))
theorem rentry_semi (L : List S46) (hL : L.length ≤ 900000) (o : Int) (i : Nat) (t : S46) (ats : List S46) (u : S46) (r : List S46) (h1 : L.drop i = t :: (ats ++ u :: r)) (ht : t.f0 = 1) (h2 : ∀ a ∈ ats, isA a = true) (h3 : isS u 59 = true) :
    Ev (fun k => ak.f k L (i : Int) o) (t.f1, ats, false, [], t.f3, ((i + ats.length + 2 : Nat) : Int), 0, 0) := by
  refine ji L hL o i t ats u r h1 ht h2 _ ?_
  obtain ⟨g1, g2, g3⟩ := eP (iE (eP h1).2.2)
  refine Ev.succ ?_
  simp only [ak.l0, g2, jB, gT, iL h3 (.inl rfl), h3]
  refine Ev.ifp natO (Ev.ifp (iq g1) (Ev.val rfl (Ev.ifn (by simp) (Ev.val rfl (Ev.ifp rfl (Ev.ret ?_))))))
  rw [bU _ (by omega)]
  have e : i + 1 + ats.length + 1 = i + ats.length + 2 := by omega
  rw [e]
theorem rentry_lim (L : List S46) (hL : L.length ≤ 900000) (i : Nat) (t : S46) (ats : List S46) (u : S46) (r : List S46) (h1 : L.drop i = t :: (ats ++ u :: r)) (ht : t.f0 = 1) (h2 : ∀ a ∈ ats, isA a = true) (h3 : isS u 123 = true) :
    Ev (fun k => ak.f k L (i : Int) ((8 : Nat) : Int)) (t.f1, ats, false, [], t.f3, ((i + 1 + ats.length : Nat) : Int), 6, u.f3) := by
  refine ji L hL _ i t ats u r h1 ht h2 _ ?_
  obtain ⟨g1, g2, g3⟩ := eP (iE (eP h1).2.2)
  refine Ev.succ ?_
  simp only [ak.l0, g2, jB, gT, iL h3 (.inr (.inl rfl)), h3, isS_ne h3 (show (123 : UInt8) ≠ 59 by decide)]
  exact Ev.ifp natO (Ev.ifp (iq g1) (Ev.val rfl (Ev.ifn (by simp) (Ev.val rfl (Ev.ifn (by simp) (Ev.val rfl (Ev.ifp rfl (Ev.ifp rfl (Ev.now _)))))))))
theorem rentry_syn (L : List S46) (hL : L.length ≤ 900000) (o : Int) (i : Nat) (t : S46) (ats : List S46) (u : S46) (r : List S46) (h1 : L.drop i = t :: (ats ++ u :: r)) (ht : t.f0 = 1) (h2 : ∀ a ∈ ats, isA a = true) (hA : isA u = false) (h3 : isS u 59 = false) (h4 : isS u 123 = false) :
    Ev (fun k => ak.f k L (i : Int) o) (t.f1, ats, false, [], t.f3, ((i + 1 + ats.length : Nat) : Int), 2, u.f3) := by
  refine ji L hL o i t ats u r h1 ht h2 _ ?_
  obtain ⟨g1, g2, g3⟩ := eP (iE (eP h1).2.2)
  refine Ev.succ ?_
  simp only [ak.l0, g2, jB, gT, hA, h3, h4]
  exact Ev.ifp natO (Ev.ifp (iq g1) (Ev.val rfl (Ev.ifn (by simp) (Ev.val rfl (Ev.ifn (by simp) (Ev.val rfl (Ev.ifn (by simp) (Ev.now _))))))))
theorem rentry_blk (L : List S46) (hL : L.length ≤ 900000) (o : Nat) (ho : o < 8) (i : Nat) (t : S46) (ats : List S46) (u : S46) (r : List S46) (h1 : L.drop i = t :: (ats ++ u :: r)) (ht : t.f0 = 1) (h2 : ∀ a ∈ ats, isA a = true) (h3 : isS u 123 = true) (y : EY)
    (hy : Ev (fun k => ak.l1 k L ((i + ats.length + 2 : Nat) : Int) (o : Int) t.f1 ats true [] t.f3) y) : Ev (fun k => ak.f k L (i : Int) (o : Int)) y := by
  refine ji L hL _ i t ats u r h1 ht h2 _ ?_
  obtain ⟨g1, g2, g3⟩ := eP (iE (eP h1).2.2)
  refine Ev.succ ?_
  simp only [ak.l0, g2, jB, gT, iL h3 (.inr (.inl rfl)), h3, isS_ne h3 (show (123 : UInt8) ≠ 59 by decide)]
  refine Ev.ifp natO (Ev.ifp (iq g1) (Ev.val rfl (Ev.ifn (by simp) (Ev.val rfl (Ev.ifn (by simp) (Ev.val rfl (Ev.ifp rfl (Ev.ifn (by omega) ?_))))))))
  rw [bU _ (by omega)]
  have e : i + 1 + ats.length + 1 = i + ats.length + 2 := by omega
  rw [e]
  exact hy
theorem rl1_step (L : List S46) (o i : Nat) (ho : o ≤ 100) (w : ByteArray) (ats : List S46) (acc : List S41) (at_ : Int) (t : S46) (r : List S46) (h1 : L.drop i = t :: r) (hs : isS t 125 = false) (ha : acc.length ≤ 1000000)
    (b : EY) (hb : Ev (fun k => ak.f k L (i : Int) ((o + 1 : Nat) : Int)) b) (hc : b.2.2.2.2.2.2.1 = 0) (y : EY)
    (h : Ev (fun k => ak.l1 k L b.2.2.2.2.2.1 (o : Int) w ats true (acc ++ [b.c]) at_) y) : Ev (fun k => ak.l1 k L (i : Int) (o : Int) w ats true acc at_) y := by
  obtain ⟨g1, g2, g3⟩ := eP h1
  refine Ev.succ ?_
  simp only [ak.l1, g2, gT, hs]
  refine Ev.ifp natO (Ev.ifp (iq g1) (Ev.val rfl (Ev.ifn (by simp) ?_)))
  rw [bU o (by omega)]
  exact Ev.bind hb (Ev.ifp hc (Ev.ifp (by omega) h))
theorem rl1_err (L : List S46) (o i : Nat) (ho : o ≤ 100) (w : ByteArray) (ats : List S46) (acc : List S41) (at_ : Int) (t : S46) (r : List S46) (h1 : L.drop i = t :: r) (hs : isS t 125 = false)
    (b : EY) (hb : Ev (fun k => ak.f k L (i : Int) ((o + 1 : Nat) : Int)) b) (hc : b.2.2.2.2.2.2.1 ≠ 0) : Ev (fun k => ak.l1 k L (i : Int) (o : Int) w ats true acc at_) (w, ats, true, acc, at_, (i : Int), b.2.2.2.2.2.2.1, b.2.2.2.2.2.2.2) := by
  obtain ⟨g1, g2, g3⟩ := eP h1
  refine Ev.succ ?_
  simp only [ak.l1, g2, gT, hs]
  refine Ev.ifp natO (Ev.ifp (iq g1) (Ev.val rfl (Ev.ifn (by simp) ?_)))
  rw [bU o (by omega)]
  exact Ev.bind hb (Ev.ifn hc (Ev.now _))
theorem rl1_stop (L : List S46) (o i : Nat) (hi : i ≤ 1000000) (w : ByteArray) (ats : List S46) (acc : List S41) (at_ : Int) (t : S46) (r : List S46) (h1 : L.drop i = t :: r) (hs : isS t 125 = true) :
    Ev (fun k => ak.l1 k L (i : Int) (o : Int) w ats true acc at_) (w, ats, true, acc, at_, ((i + 1 : Nat) : Int), 0, 0) := by
  obtain ⟨g1, g2, g3⟩ := eP h1
  refine Ev.succ ?_
  simp only [ak.l1, g2, gT, hs]
  rw [bU i hi]
  exact Ev.ifp natO (Ev.ifp (iq g1) (Ev.val rfl (Ev.ifp rfl (Ev.now _))))
theorem rp_step (L : List S46) (i : Nat) (acc : List S41) (t : S46) (r : List S46) (h1 : L.drop i = t :: r) (hs : t.f0 ≠ 5) (ha : acc.length ≤ 1000000)
    (b : EY) (hb : Ev (fun k => ak.f k L (i : Int) 0) b) (hc : b.2.2.2.2.2.2.1 = 0) (y : List S41 × Int × Int)
    (h : Ev (fun k => bn.l0 k L (acc ++ [b.c]) b.2.2.2.2.2.1) y) : Ev (fun k => bn.l0 k L acc (i : Int)) y := by
  obtain ⟨g1, g2, g3⟩ := eP h1
  refine Ev.succ ?_
  simp only [bn.l0, g2]
  exact Ev.ifp natO (Ev.ifp (iq g1) (Ev.ifn hs (Ev.bind hb (Ev.ifp hc (Ev.ifp (by omega) h)))))
theorem rp_err (L : List S46) (i : Nat) (acc : List S41) (t : S46) (r : List S46) (h1 : L.drop i = t :: r) (hs : t.f0 ≠ 5)
    (b : EY) (hb : Ev (fun k => ak.f k L (i : Int) 0) b) (hc : b.2.2.2.2.2.2.1 ≠ 0) : Ev (fun k => bn.l0 k L acc (i : Int)) ([], b.2.2.2.2.2.2.1, b.2.2.2.2.2.2.2) := by
  obtain ⟨g1, g2, g3⟩ := eP h1
  refine Ev.succ ?_
  simp only [bn.l0, g2]
  exact Ev.ifp natO (Ev.ifp (iq g1) (Ev.ifn hs (Ev.bind hb (Ev.ifn hc (Ev.now _)))))
theorem rp_stop (L : List S46) (i : Nat) (acc : List S41) (t : S46) (r : List S46) (h1 : L.drop i = t :: r) (hs : t.f0 = 5) : Ev (fun k => bn.l0 k L acc (i : Int)) (acc, 0, 0) := by
  obtain ⟨g1, g2, g3⟩ := eP h1
  refine Ev.succ ?_
  simp only [bn.l0, g2]
  exact Ev.ifp natO (Ev.ifp (iq g1) (Ev.ifp hs (Ev.now _)))
def goodB (n : Nat) (w : ByteArray) (ats : List S46) (acc : List S41) (at_ : Int) (y : EY) : Ans → Prop
  | .ok p => y = (w, ats, true, acc ++ p.1, at_, ((n - p.2.length + 1 : Nat) : Int), 0, 0)
  | .error e => y.2.2.2.2.2.2 = e
def ansP (acc : List S41) : Ans → List S41 × Int × Int
  | .ok p => (acc ++ p.1, 0, 0)
  | .error e => ([], e.1, e.2)
def GoalR (L : List S46) (o i : Nat) (acc : List S41) (x : Ans) : Prop :=
  (∀ o', o = o' + 1 → ∀ w ats at_, ∃ y, Ev (fun k => ak.l1 k L (i : Int) (o' : Int) w ats true acc at_) y ∧ goodB L.length w ats acc at_ y x) ∧ (o = 0 → Ev (fun k => bn.l0 k L acc (i : Int)) (ansP acc x))
theorem lc {o : Nat} {t : S46} (h : t.f0 = 1) : iI o t = false := by
  unfold iI isS
  split <;> simp [h]
theorem goal_step (L : List S46) (o i j : Nat) (ho : o ≤ 8) (acc : List S41) (t : S46) (r : List S46) (h1 : L.drop i = t :: r) (hs : iI o t = false) (ha : acc.length ≤ 1000000) (b : EY) (hb : Ev (fun k => ak.f k L (i : Int) (o : Int)) b)
    (hc : b.2.2.2.2.2.2.1 = 0) (hj : b.2.2.2.2.2.1 = (j : Int)) (x : Ans) (h : GoalR L o j (acc ++ [b.c]) x) : GoalR L o i acc (push b.c x) := by
  refine ⟨?_, ?_⟩
  · intro o' e w ats at_
    subst e
    obtain ⟨y, g1, g2⟩ := h.1 o' rfl w ats at_
    rw [← hj] at g1
    refine ⟨y, rl1_step L o' i (by omega) w ats acc at_ t r h1 (by simpa [iI] using hs) ha b hb hc y g1, ?_⟩
    cases x with
    | error e => exact g2
    | ok p => simpa [goodB, push] using g2
  · intro e
    subst e
    have g1 := h.2 rfl
    rw [← hj] at g1
    have := rp_step L i acc t r h1 (by simpa [iI] using hs) ha b hb hc _ g1
    cases x with
    | error e => exact this
    | ok p => simpa [ansP, push] using this
theorem kR (L : List S46) (o i : Nat) (ho : o ≤ 8) (acc : List S41) (t : S46) (r : List S46) (h1 : L.drop i = t :: r) (hs : iI o t = false) (b : EY) (hb : Ev (fun k => ak.f k L (i : Int) (o : Int)) b)
    (e : Int × Int) (hc : b.2.2.2.2.2.2 = e) (h0 : e.1 ≠ 0) : GoalR L o i acc (.error e) := by
  have hc' : b.2.2.2.2.2.2.1 ≠ 0 := by rw [hc]; exact h0
  refine ⟨?_, ?_⟩
  · intro o' eo w ats at_
    subst eo
    exact ⟨_, rl1_err L o' i (by omega) w ats acc at_ t r h1 (by simpa [iI] using hs) b hb hc', hc⟩
  · intro eo
    subst eo
    have := rp_err L i acc t r h1 (by simpa [iI] using hs) b hb hc'
    rw [hc] at this
    exact this
theorem run_ref (L : List S46) (hL : L.length ≤ 900000) {o : Nat} {ts : List S46} {x : Ans} (h : RL o ts x) :
    ∀ (i : Nat) (acc : List S41), o ≤ 8 → L.drop i = ts → acc.length ≤ i → GoalR L o i acc x := by
  have hlen : ∀ (i : Nat) (q : List S46), L.drop i = q → q ≠ [] → L.length - q.length = i ∧ i ≤ L.length := by
    intro i q hq hne
    have := congrArg List.length hq
    rw [List.length_drop] at this
    have := List.length_pos_iff.2 hne
    omega
  induction h with
  | stop o t r h1 h2 =>
    intro i acc _ hi _
    have hj := hlen i _ hi (by simp)
    refine ⟨?_, ?_⟩
    · intro o' e w ats at_
      subst e
      refine ⟨_, rl1_stop L o' i (by omega) w ats acc at_ t r hi (by simpa [iI] using h2), ?_⟩
      simp only [goodB, List.append_nil]
      rw [hj.1]
    · intro e
      subst e
      simpa [ansP] using rp_stop L i acc t r hi (by simpa [iI] using h2)
  | bad o t r h1 h2 =>
    intro i acc ho hi _
    exact kR L o i ho acc t r hi h2 _ (rentry_no L o i t r hi h1) _ rfl (by simp)
  | semi o t ats u r x h1 h2 h3 hr ih =>
    intro i acc ho hi ha
    have hr' := (eP (iE (eP hi).2.2)).2.2
    have e : i + 1 + ats.length + 1 = i + ats.length + 2 := by omega
    rw [e] at hr'
    have hj := hlen i _ hi (by simp)
    exact goal_step L o i (i + ats.length + 2) ho acc t _ hi (lc h1) (by omega) _ (rentry_semi L hL o i t ats u r hi h1 h2 h3) rfl rfl x (ih _ _ ho hr' (by simp; omega))
  | syn o t ats u r h1 h2 hA h3 h4 =>
    intro i acc ho hi ha
    exact kR L o i ho acc t _ hi (lc h1) _ (rentry_syn L hL o i t ats u r hi h1 h2 hA h3 h4) _ rfl (by simp)
  | lim t ats u r h1 h2 h3 =>
    intro i acc ho hi ha
    exact kR L 8 i ho acc t _ hi (lc h1) _ (rentry_lim L hL i t ats u r hi h1 h2 h3) _ rfl (by simp)
  | blk o t ats u r ks b q x ho h1 h2 h3 hk hr ihk ih =>
    intro i acc ho' hi ha
    have hr' := (eP (iE (eP hi).2.2)).2.2
    have e : i + 1 + ats.length + 1 = i + ats.length + 2 := by omega
    rw [e] at hr'
    obtain ⟨yk, k1, k2⟩ := (ihk (i + ats.length + 2) [] (by omega) hr' (by simp)).1 o rfl t.f1 ats t.f3
    obtain ⟨b', q0, pk, f1, f2, f3, f4, f5⟩ := hk.frame _ _ rfl
    have hq : L.drop (i + ats.length + 2 + pk.length) = b :: q := iE (by rw [hr', f4])
    have hq2 := (eP hq).2.2
    have hj := hlen _ _ hq (by simp)
    have hj0 := hlen i _ hi (by simp)
    simp only [goodB, List.nil_append] at k2
    rw [hj.1] at k2
    subst k2
    exact goal_step L o i (i + ats.length + 2 + pk.length + 1) ho' acc t _ hi (lc h1) (by omega) _ (rentry_blk L hL o ho i t ats u r hi h1 h2 h3 _ k1) rfl rfl x (ih _ _ ho' hq2 (by simp; omega))
  | blkF o t ats u r e ho h1 h2 h3 hk ihk =>
    intro i acc ho' hi ha
    have hr' := (eP (iE (eP hi).2.2)).2.2
    have e' : i + 1 + ats.length + 1 = i + ats.length + 2 := by omega
    rw [e'] at hr'
    obtain ⟨yk, k1, k2⟩ := (ihk (i + ats.length + 2) [] (by omega) hr' (by simp)).1 o rfl t.f1 ats t.f3
    have hc := hk.code _ rfl
    exact kR L o i ho' acc t _ hi (lc h1) _ (rentry_blk L hL o ho i t ats u r hi h1 h2 h3 _ k1) e k2 (by omega)
theorem rparse_f (L : List S46) (hL : L.length ≤ 900000) {x : Ans} (h : RL 0 L x) : Ev (fun k => bn.l0 k L [] 0) (ansP [] x) := (run_ref L hL h 0 [] (by omega) rfl (by simp)).2 rfl
theorem rskip_j1t (s : ByteArray) (i : Nat) (r : Int) (hi : i ≤ 1000000) (h : Ev (fun k => aM.l0 k s ((i + 1 : Nat) : Int)) r) : Ev (fun k => aM.j1 k s i true) r := by
  refine Ev.succ ?_
  simp only [aM.j1]
  rw [bU i hi]
  exact Ev.ifp (by simp) h
theorem rskip_prog (s : ByteArray) (hs : s.size ≤ 1000000) : ∀ (d : Nat) (i : Nat) (l : List UInt8), i ≤ s.size → s.size - i = d → (lst s).drop i = l →
    Ev (fun k => aM.l0 k s i) (s.size - (dw false l).length) ∧ Ev (fun k => aM.l1 k s i) (s.size - (dw true l).length) := by
  intro d
  induction d with
  | zero =>
    intro i l hi hd hl
    obtain rfl : i = s.size := by omega
    obtain rfl : l = [] := by rw [← hl]; exact List.drop_eq_nil_of_le (by rw [aI]; omega)
    have h0 : Ev (fun k => aM.l0 k s (s.size : Int)) (s.size - (dw false []).length) := by
      refine Ev.succ ?_
      simp only [aM.l0]
      refine Ev.ifn (by omega) (Ev.ret (by simp [dw]))
    refine ⟨h0, ?_⟩
    refine Ev.succ ?_
    simp only [aM.l1]
    exact Ev.ifn (by omega) h0
  | succ d ih =>
    intro i l hi hd hl
    cases l with
    | nil => exact absurd (at_nil hi hl) (by omega)
    | cons c l =>
      obtain ⟨h1, h2, h3⟩ := gp hl
      obtain ⟨ihf, iht⟩ := ih (i + 1) l (by omega) (by omega) h3
      have hk := kind1 c.toNat
      have hb : kindOf c.toNat = 1 → Ev (fun k => aM.l0 k s i) (s.size - (dw false l).length) := by
        intro hb
        have hj := rskip_j1t s i _ (by omega) ihf
        refine Ev.succ ?_
        simp only [aM.l0]
        rw [h2]
        refine Ev.ifp (by omega) (Ev.ifp (by omega) ?_)
        by_cases a : c.toNat = 32
        · exact Ev.ifp (by omega) hj
        · refine Ev.ifn (by omega) ?_
          by_cases b : c.toNat = 9
          · exact Ev.ifp (by omega) hj
          · refine Ev.ifn (by omega) ?_
            by_cases e : c.toNat = 10
            · exact Ev.ifp (by omega) hj
            · refine Ev.ifn (by omega) ?_
              have : ((c.toNat : Int) == 13) = true := by rw [beq_iff_eq]; omega
              rw [this]; exact hj
      have ht : Ev (fun k => aM.l1 k s i) (s.size - (dw true (c :: l)).length) := by
        refine Ev.succ ?_
        simp only [aM.l1]
        rw [h2]
        refine Ev.ifp (by omega) (Ev.ifp (by omega) ?_)
        unfold dw
        by_cases h10 : c.toNat = 10
        · rw [if_pos h10]
          exact Ev.ifp (by omega) (hb (by omega))
        · rw [if_neg h10, bU i (by omega)]
          exact Ev.ifn (by omega) iht
      refine ⟨?_, ht⟩
      by_cases hb1 : kindOf c.toNat = 1
      · unfold dw
        rw [if_neg (by omega), if_pos hb1]
        exact hb hb1
      · refine Ev.succ ?_
        simp only [aM.l0]
        rw [h2]
        refine Ev.ifp (by omega) (Ev.ifp (by omega) (Ev.ifn (by omega) (Ev.ifn (by omega) (Ev.ifn (by omega) ?_))))
        have : ((c.toNat : Int) == 13) = false := by rw [beq_eq_false_iff_ne]; omega
        rw [this]
        refine Ev.succ ?_
        simp only [aM.j1]
        rw [h2]
        refine Ev.ifn (by simp) (Ev.ifp (by omega) (Ev.ifp (by omega) ?_))
        by_cases h35 : c.toNat = 35
        · refine Ev.ifp (by omega) ?_
          have e : dw false (c :: l) = dw true (c :: l) := by
            unfold dw; rw [if_pos h35, if_neg (by omega)]
          rw [e]; exact ht
        · refine Ev.ifn (by omega) (Ev.ret ?_)
          have e : dw false (c :: l) = c :: l := by
            unfold dw; rw [if_neg h35, if_neg hb1]
          rw [e, ← hl, List.length_drop, aI]; omega
theorem rskip_f (s : ByteArray) (hs : s.size ≤ 1000000) (i : Nat) (hi : i ≤ s.size) : Ev (fun k => aM.f k s i) (s.size - (dw false ((lst s).drop i)).length) := (rskip_prog s hs _ i _ hi rfl rfl).1
theorem rletter_f (c : UInt8) : bO.f (c.toNat : Int) = some (isLet c) := by
  unfold bO.f
  have hk := kind2 c.toNat
  have : isLet c = decide (97 ≤ c.toNat ∧ c.toNat ≤ 122 ∨ 65 ≤ c.toNat ∧ c.toNat ≤ 90) := by
    rw [Bool.eq_iff_iff]; simp only [isLet, Bool.and_eq_true, beq_iff_eq, bne_iff_ne, ne_eq, decide_eq_true_eq]; omega
  rw [this]
  by_cases a : c.toNat ≥ 65
  · rw [if_pos (by omega)]
    by_cases b : c.toNat ≤ 90
    · rw [if_pos (by omega)]; congr 1; rw [eq_comm, decide_eq_true_eq]; omega
    · rw [if_neg (by omega)]
      by_cases e : c.toNat ≥ 97
      · rw [if_pos (by omega)]; congr 1; rw [Bool.eq_iff_iff]; simp only [decide_eq_true_eq]; omega
      · rw [if_neg (by omega)]; congr 1; rw [eq_comm, decide_eq_false_iff_not]; omega
  · rw [if_neg (by omega), if_neg (by omega)]; congr 1; rw [eq_comm, decide_eq_false_iff_not]; omega
theorem rdigit_f (c : UInt8) : bY.f (c.toNat : Int) = some (fC c) := by
  unfold bY.f
  have hk := jf c
  by_cases a : c.toNat ≥ 48
  · rw [if_pos (by omega)]; congr 1; rw [Bool.eq_iff_iff, hk]; simp only [decide_eq_true_eq]; omega
  · rw [if_neg (by omega)]; congr 1; rw [eq_comm, ← Bool.not_eq_true, hk]; omega
theorem rrun_f (c : UInt8) : eH.f (c.toNat : Int) = some (bQ c) := by
  unfold eH.f
  rw [rletter_f, rdigit_f]
  simp only [Option.bind_some]
  have h2 := kind2 c.toNat
  have h3 := kind3 c.toNat
  have h4 := kind4 c.toNat
  have hd := jf c
  have hl : isLet c = true ↔ (kindOf c.toNat = 2 ∧ c.toNat ≠ 95) := by simp [isLet]
  have hr : bQ c = true ↔ (kindOf c.toNat = 2 ∨ kindOf c.toNat = 3 ∨ kindOf c.toNat = 4) := by simp [bQ, or_assoc]
  by_cases a : isLet c = true
  · rw [if_pos a]; congr 1; rw [eq_comm, hr]; left; exact (hl.1 a).1
  · rw [if_neg a]
    by_cases b : fC c = true
    · rw [if_pos b]; congr 1; rw [eq_comm, hr]; right; left; rw [h3, ← hd]; exact b
    · rw [if_neg b]
      by_cases e : c.toNat = 95
      · rw [if_pos (by omega)]; congr 1; rw [eq_comm, hr]; left; rw [h2]; omega
      · rw [if_neg (by omega)]; congr 1
        rw [Bool.eq_iff_iff, hr, beq_iff_eq]
        rw [hl] at a
        rw [hd, ← h3] at b
        constructor
        · intro h; right; right; rw [h4]; omega
        · intro h
          rcases h with h | h | h
          · exact absurd ⟨h, e⟩ a
          · exact absurd h b
          · rw [h4] at h; omega
theorem rsign_f (c : UInt8) : Ev (fun k => bF.f k (c.toNat : Int)) (decide (kindOf c.toNat = 5)) := by
  have hk := kind5 c.toNat
  unfold bF.f
  have step : ∀ (i : Nat) (b : Bool) (x : Nat), i < 11 → bt (⟨#[40, 41, 43, 45, 42, 47, 44, 61, 59, 123, 125]⟩ : ByteArray) (i : Int) = (x : Int) →
      (c.toNat ≠ x → Ev (fun k => bF.l0 k (c.toNat : Int) ((i + 1 : Nat) : Int)) b) → (c.toNat = x → b = true) → Ev (fun k => bF.l0 k (c.toNat : Int) (i : Int)) b := by
    intro i b x hi hx h hb
    refine Ev.succ ?_
    simp only [bF.l0]
    rw [hx, bU i (by omega)]
    refine Ev.ifp (by omega) (Ev.ifp (by omega) ?_)
    by_cases e : c.toNat = x
    · exact Ev.ifp (by omega) (Ev.ret (hb e).symm)
    · exact Ev.ifn (by omega) (h e)
  refine step 0 _ 40 (by omega) (by decide) (fun h0 => ?_) (fun e => by rw [decide_eq_true_eq]; omega)
  refine step 1 _ 41 (by omega) (by decide) (fun h1 => ?_) (fun e => by rw [decide_eq_true_eq]; omega)
  refine step 2 _ 43 (by omega) (by decide) (fun h2 => ?_) (fun e => by rw [decide_eq_true_eq]; omega)
  refine step 3 _ 45 (by omega) (by decide) (fun h3 => ?_) (fun e => by rw [decide_eq_true_eq]; omega)
  refine step 4 _ 42 (by omega) (by decide) (fun h4 => ?_) (fun e => by rw [decide_eq_true_eq]; omega)
  refine step 5 _ 47 (by omega) (by decide) (fun h5 => ?_) (fun e => by rw [decide_eq_true_eq]; omega)
  refine step 6 _ 44 (by omega) (by decide) (fun h6 => ?_) (fun e => by rw [decide_eq_true_eq]; omega)
  refine step 7 _ 61 (by omega) (by decide) (fun h7 => ?_) (fun e => by rw [decide_eq_true_eq]; omega)
  refine step 8 _ 59 (by omega) (by decide) (fun h8 => ?_) (fun e => by rw [decide_eq_true_eq]; omega)
  refine step 9 _ 123 (by omega) (by decide) (fun h9 => ?_) (fun e => by rw [decide_eq_true_eq]; omega)
  refine step 10 _ 125 (by omega) (by decide) (fun h10 => ?_) (fun e => by rw [decide_eq_true_eq]; omega)
  refine Ev.succ ?_
  simp only [bF.l0]
  refine Ev.ifn (by omega) (Ev.ret ?_)
  rw [eq_comm, decide_eq_false_iff_not]; omega
theorem rhas_f (s : ByteArray) (hs : s.size ≤ 1000000) (q : Bool) : ∀ (d i : Nat) (l : List UInt8), i ≤ s.size → s.size - i = d → (lst s).drop i = l →
    Ev (fun k => bA.l0 k s q (!q) i) (if q then l.any isLet else l.any lq) := by
  intro d
  induction d with
  | zero =>
    intro i l hi hd hl
    obtain rfl : i = s.size := by omega
    obtain rfl : l = [] := by rw [← hl]; exact List.drop_eq_nil_of_le (by rw [aI]; omega)
    refine Ev.succ ?_
    simp only [bA.l0]
    exact Ev.ifn (by omega) (Ev.ret (by simp))
  | succ d ih =>
    intro i l hi hd hl
    cases l with
    | nil => exact absurd (at_nil hi hl) (by omega)
    | cons c l =>
      obtain ⟨h1, h2, h3⟩ := gp hl
      have hi2 := ih (i + 1) l (by omega) (by omega) h3
      refine Ev.succ ?_
      simp only [bA.l0]
      rw [h2, bU i (by omega)]
      refine Ev.ifp (by omega) ?_
      cases q with
      | true =>
        refine Ev.ifp rfl (Ev.ifp (by omega) (Ev.val (rletter_f c) ?_))
        by_cases a : isLet c = true
        · exact Ev.ifp a (Ev.ret (by simp [a]))
        · refine Ev.ifn a (Ev.ifn (by simp) ?_)
          rw [Bool.not_eq_true] at a
          simpa [a] using hi2
      | false =>
        refine Ev.ifn (by simp) (Ev.ifp (by simp) (Ev.ifp (by omega) ?_))
        by_cases a : c.toNat = 46
        · exact Ev.ifp (by omega) (Ev.ret (by simp [lq, a]))
        · refine Ev.ifn (by omega) ?_
          have : lq c = false := by simp [lq, a]
          simpa [this] using hi2
theorem rdigits_f (s : ByteArray) (hs : s.size ≤ 1000000) : Ev (fun k => bz.f k s) (decide (lst s ≠ []) && (lst s).all fC) := by
  have loop : ∀ (d i : Nat) (l : List UInt8), i ≤ s.size → s.size - i = d → (lst s).drop i = l → Ev (fun k => bz.l0 k s i) (decide (lst s ≠ []) && l.all fC) := by
    intro d
    induction d with
    | zero =>
      intro i l hi hd hl
      obtain rfl : i = s.size := by omega
      obtain rfl : l = [] := by rw [← hl]; exact List.drop_eq_nil_of_le (by rw [aI]; omega)
      refine Ev.succ ?_
      simp only [bz.l0]
      refine Ev.ifn (by omega) (Ev.ret ?_)
      simp only [List.all_nil, Bool.and_true]
      rw [Bool.eq_iff_iff]; simp only [decide_eq_true_eq, ← List.length_pos_iff, aI]; omega
    | succ d ih =>
      intro i l hi hd hl
      cases l with
      | nil => exact absurd (at_nil hi hl) (by omega)
      | cons c l =>
        obtain ⟨h1, h2, h3⟩ := gp hl
        have hi2 := ih (i + 1) l (by omega) (by omega) h3
        refine Ev.succ ?_
        simp only [bz.l0]
        rw [h2, bU i (by omega)]
        refine Ev.ifp (by omega) (Ev.ifp (by omega) (Ev.val (rdigit_f c) ?_))
        by_cases a : fC c = true
        · refine Ev.ifp a ?_
          simpa [a] using hi2
        · refine Ev.ifn a (Ev.ret ?_)
          rw [Bool.not_eq_true] at a
          simp [a]
  exact loop _ 0 _ (by omega) rfl rfl
def valL (a : Nat) (l : List UInt8) : Nat := l.foldl (fun n c => n * 10 + (c.toNat - 48)) a
theorem step_dig (n : Nat) (c : UInt8) (hn : n < 10 ^ 16) (hc : fC c = true) : wrap64 (wrap64 (10 * (n : Int)) + (((c.toNat : Int) - 48) % 256)) = ((n * 10 + (c.toNat - 48) : Nat) : Int) := by
  have hc := (jf c).1 hc
  rw [gq (i := 10 * (n : Int)) (by omega) (by omega), gq (by omega) (by omega)]
  omega
theorem step_dig' (n : Nat) (c : UInt8) (hn : n < 10 ^ 16) (hc : fC c = true) : wrap64 (wrap64 ((n : Int) * 10) + (((c.toNat : Int) - 48) % 256)) = ((n * 10 + (c.toNat - 48) : Nat) : Int) := by
  rw [Int.mul_comm]; exact step_dig n c hn hc
theorem rl2_f (p : ByteArray) (hp : (lst p).all fC = true) (hs : p.size ≤ 1000000) : ∀ (d i n : Nat), i ≤ 3 → 3 - i = d → n < 10 ^ (10 + i) →
    Ev (fun k => ay.l2 k p n i) (if valL n (((lst p ++ [48, 48, 48]).take 3).drop i) > 1000000000 then (0, 5) else ((valL n (((lst p ++ [48, 48, 48]).take 3).drop i) : Int), 0)) := by
  have hl3 : ((lst p ++ [48, 48, 48]).take 3).length = 3 := by rw [List.length_take, List.length_append]; simp
  intro d
  induction d with
  | zero =>
    intro i n hi hd hn
    obtain rfl : i = 3 := by omega
    rw [List.drop_eq_nil_of_le (by omega)]
    refine Ev.succ ?_
    simp only [ay.l2]
    refine Ev.ifn (by omega) ?_
    show Ev _ (if n > 1000000000 then (0, 5) else ((n : Int), 0))
    by_cases h : n > 1000000000
    · exact Ev.ifp (by omega) (Ev.ret (by rw [if_pos h]))
    · exact Ev.ifn (by omega) (Ev.ret (by rw [if_neg h]))
  | succ d ih =>
    intro i n hi hd hn
    have hnb : n < 10 ^ 16 := Nat.lt_of_lt_of_le hn (Nat.pow_le_pow_right (by omega) (by omega))
    have hcons : ((lst p ++ [48, 48, 48]).take 3).drop i = ((lst p ++ [48, 48, 48]).take 3)[i]'(by omega) :: ((lst p ++ [48, 48, 48]).take 3).drop (i + 1) := List.drop_eq_getElem_cons (by omega)
    rw [hcons]
    refine Ev.succ ?_
    simp only [ay.l2]
    refine Ev.ifp (by omega) ?_
    rw [bU i (by omega)]
    by_cases h : i < p.size
    · obtain ⟨c, hc1, hc2⟩ := bt_get h
      have hg : ((lst p ++ [48, 48, 48]).take 3)[i]'(by omega) = c := by
        rw [List.getElem_take, List.getElem_append_left (by rw [aI]; exact h)]
        exact (List.getElem?_eq_some_iff.1 hc1).2
      have hdig : fC c = true := by
        refine (List.all_eq_true.1 hp) c ?_
        exact List.mem_of_getElem? hc1
      refine Ev.ifp (by omega) (Ev.ifp (by omega) ?_)
      rw [hc2, step_dig' n c hnb hdig, hg]
      have hb := (jf c).1 hdig
      have he : 10 ^ (10 + (i + 1)) = 10 ^ (10 + i) * 10 := Nat.pow_succ ..
      exact ih (i + 1) (n * 10 + (c.toNat - 48)) (by omega) (by omega) (by omega)
    · have hg : ((lst p ++ [48, 48, 48]).take 3)[i]'(by omega) = 48 := by
        rw [List.getElem_take, List.getElem_append_right (by rw [aI]; omega)]
        have hm := List.getElem_mem (l := ([48, 48, 48] : List UInt8)) (n := i - (lst p).length) (by rw [aI]; simp; omega)
        generalize ([48, 48, 48] : List UInt8)[i - (lst p).length]'_ = x at hm ⊢
        simp only [List.mem_cons, List.not_mem_nil, or_false, or_self] at hm
        exact hm
      refine Ev.ifn (by omega) ?_
      have hw : wrap64 ((n : Int) * 10) = ((n * 10 + ((48 : UInt8).toNat - 48) : Nat) : Int) := by
        rw [gq (by omega) (by omega)]
        show (n : Int) * 10 = ((n * 10 + (48 - 48) : Nat) : Int)
        omega
      rw [hw, hg]
      have he : 10 ^ (10 + (i + 1)) = 10 ^ (10 + i) * 10 := Nat.pow_succ ..
      have h48 : (48 : UInt8).toNat = 48 := rfl
      exact ih (i + 1) (n * 10 + ((48 : UInt8).toNat - 48)) (by omega) (by omega) (by rw [h48]; omega)
theorem rl1_f (w p : ByteArray) (hw : (lst w).all fC = true) (hp : (lst p).all fC = true) (hws : w.size ≤ 10) (hs : p.size ≤ 1000000) : ∀ (d i n : Nat) (l : List UInt8), i ≤ w.size → w.size - i = d → (lst w).drop i = l → n < 10 ^ i →
    Ev (fun k => ay.l1 k w p n i) (if valL (valL n l) ((lst p ++ [48, 48, 48]).take 3) > 1000000000 then (0, 5) else ((valL (valL n l) ((lst p ++ [48, 48, 48]).take 3) : Int), 0)) := by
  intro d
  induction d with
  | zero =>
    intro i n l hi hd hl hn
    obtain rfl : i = w.size := by omega
    obtain rfl : l = [] := by rw [← hl]; exact List.drop_eq_nil_of_le (by rw [aI]; omega)
    refine Ev.succ ?_
    simp only [ay.l1]
    refine Ev.ifn (by omega) ?_
    have := rl2_f p hp hs 3 0 n (by omega) rfl (Nat.lt_of_lt_of_le hn (Nat.pow_le_pow_right (by omega) (by omega)))
    exact this
  | succ d ih =>
    intro i n l hi hd hl hn
    cases l with
    | nil => exact absurd (at_nil hi hl) (by omega)
    | cons c l =>
      obtain ⟨h1, h2, h3⟩ := gp hl
      have hdig : fC c = true := by
        refine (List.all_eq_true.1 hw) c ?_
        have : c ∈ (lst w).drop i := by rw [hl]; exact List.mem_cons_self
        exact List.mem_of_mem_drop this
      have hnb : n < 10 ^ 16 := Nat.lt_of_lt_of_le hn (Nat.pow_le_pow_right (by omega) (by omega))
      refine Ev.succ ?_
      simp only [ay.l1]
      rw [h2, bU i (by omega), step_dig n c hnb hdig]
      refine Ev.ifp (by omega) (Ev.ifp (by omega) ?_)
      have hb := (jf c).1 hdig
      have he : 10 ^ (i + 1) = 10 ^ i * 10 := Nat.pow_succ ..
      exact ih (i + 1) (n * 10 + (c.toNat - 48)) l (by omega) (by omega) h3 (by omega)
theorem valL_append (a : Nat) (l m : List UInt8) : valL (valL a l) m = valL a (l ++ m) := by simp [valL]
theorem digitsVal_eq (l : List UInt8) : dQ l = valL 0 l := rfl
theorem rj3_f (w p : ByteArray) (hs : w.size + p.size ≤ 1000000) (b : Bool) (hb : b = false → (lst w).all fC = true ∧ (lst p).all fC = true) :
    Ev (fun k => ay.j3 k w p b) (if b then (0, 2) else kN (lst w) (lst p)) := by
  refine Ev.succ ?_
  simp only [ay.j3]
  cases b with
  | true => exact Ev.ifp (by simp) (Ev.ret (by simp))
  | false =>
    obtain ⟨h1, h2⟩ := hb rfl
    refine Ev.ifn (by simp) ?_
    simp only [Bool.false_eq_true, if_false]
    unfold kN
    rw [aI, digitsVal_eq]
    by_cases h10 : 10 < w.size
    · exact Ev.ifp (by omega) (Ev.ret (by rw [if_pos h10]))
    · refine Ev.ifn (by omega) ?_
      rw [if_neg h10]
      have := rl1_f w p h1 h2 (by omega) (by omega) _ 0 0 (lst w) (by omega) rfl rfl (by decide)
      rw [valL_append] at this
      exact this
theorem rj2_f (w p : ByteArray) (hs : w.size + p.size ≤ 1000000) (hp : (lst p).all fC = true) :
    Ev (fun k => ay.j2 k w p) (if lst w = [] ∨ (1 < (lst w).length ∧ (lst w).head? = some 48) then (0, 2) else if (lst w).all fC = false then (0, 2) else kN (lst w) (lst p)) := by
  have h48 : ∀ c : UInt8, (some c = some (48 : UInt8)) ↔ c.toNat = 48 := fun c => kG (by decide)
  refine Ev.succ ?_
  simp only [ay.j2]
  refine Ev.bind (rdigits_f w (by omega)) ?_
  rw [aI]
  by_cases h0 : lst w = []
  · refine Ev.ifn (by simp [h0]) ?_
    rw [if_pos (.inl h0)]
    simpa using rj3_f w p hs true (by simp)
  · have hp0 : 0 < w.size := by rw [← aI]; exact List.length_pos_iff.2 h0
    obtain ⟨c, hc1, hc2⟩ := lu hp0
    by_cases ha : (lst w).all fC = true
    · refine Ev.ifp (by simp [h0, ha]) ?_
      rw [hc2]
      by_cases h1 : 1 < w.size
      · refine Ev.ifp (by omega) (Ev.ifp (by omega) ?_)
        by_cases hz : c.toNat = 48
        · have : ((c.toNat : Int) == 48) = true := by rw [beq_iff_eq]; omega
          rw [this, if_pos (.inr ⟨h1, by rw [hc1, h48]; exact hz⟩)]
          simpa using rj3_f w p hs true (by simp)
        · have : ((c.toNat : Int) == 48) = false := by rw [beq_eq_false_iff_ne]; omega
          rw [this, if_neg (by rintro (h | h); exact h0 h; have := h.2; rw [hc1, h48] at this; exact hz this)]
          simpa [ha] using rj3_f w p hs false (fun _ => ⟨ha, hp⟩)
      · refine Ev.ifn (by omega) ?_
        rw [if_neg (by rintro (h | h); exact h0 h; omega)]
        simpa [ha] using rj3_f w p hs false (fun _ => ⟨ha, hp⟩)
    · refine Ev.ifn (by simp [ha]) ?_
      rw [Bool.not_eq_true] at ha
      have := rj3_f w p hs true (by simp)
      by_cases hc : lst w = [] ∨ (1 < w.size ∧ (lst w).head? = some 48)
      · rw [if_pos hc]; simpa using this
      · rw [if_neg hc]; simpa [ha] using this
theorem rj2_l (a b : List UInt8) (hs : a.length + b.length ≤ 1000000) (hp : b.all fC = true) :
    Ev (fun k => ay.j2 k (str a) (str b)) (if a = [] ∨ (1 < a.length ∧ a.head? = some 48) then (0, 2) else if a.all fC = false then (0, 2) else kN a b) :=
  rj2_f (str a) (str b) (by rw [dY, dY]; exact hs) hp
theorem findIdx_cons (t : List UInt8) (c : UInt8) : (c :: t).findIdx (· == 46) = if c.toNat = 46 then 0 else t.findIdx (· == 46) + 1 := by
  rw [List.findIdx_cons]
  by_cases h : c.toNat = 46
  · have : (c == 46) = true := by rw [beq_iff_eq, ← UInt8.toNat_inj]; exact h
    rw [this, if_pos h]; rfl
  · have : (c == 46) = false := by rw [beq_eq_false_iff_ne]; intro e; exact h (by rw [e]; rfl)
    rw [this, if_neg h]; rfl
theorem rnumber_f (s : ByteArray) (hs : s.size ≤ 1000000) : Ev (fun k => ay.f k s) (numL (lst s)) := by
  have hj1 : Ev (fun k => ay.j1 k s (((lst s).findIdx (· == 46) : Nat) : Int)) (numL (lst s)) := by
    have hle : (lst s).findIdx (· == 46) ≤ s.size := by rw [← aI]; exact List.findIdx_le_length
    have e : numL (lst s) = (if (lst s).take ((lst s).findIdx (· == 46)) = [] ∨ (1 < ((lst s).take ((lst s).findIdx (· == 46))).length ∧ ((lst s).take ((lst s).findIdx (· == 46))).head? = some 48) ∨ ((lst s).findIdx (· == 46) < s.size ∧ ((lst s).drop ((lst s).findIdx (· == 46) + 1) = [] ∨ 3 < ((lst s).drop ((lst s).findIdx (· == 46) + 1)).length)) then (0, 2)
        else if ((lst s).take ((lst s).findIdx (· == 46)) ++ (lst s).drop ((lst s).findIdx (· == 46) + 1)).all fC = false then (0, 2) else kN ((lst s).take ((lst s).findIdx (· == 46))) ((lst s).drop ((lst s).findIdx (· == 46) + 1))) := rfl
    rw [e]
    generalize (lst s).findIdx (· == 46) = i at hle ⊢
    have hx : s.extract 0 ((i : Int)).toNat = str ((lst s).take i) := by apply ic; rw [eO]; rfl
    have hy : s.extract (((i + 1 : Nat) : Int)).toNat s.size = str ((lst s).drop (i + 1)) := by
      apply ic; rw [eO, List.take_of_length_le (by rw [aI]; omega)]; rfl
    refine Ev.succ ?_
    simp only [ay.j1]
    rw [bU i (by omega), hx, hy]
    refine Ev.ifp (by omega) (Ev.ifp (by omega) ?_)
    have hlt : ((lst s).take i).length = i := by rw [List.length_take, aI]; omega
    have hld : ((lst s).drop (i + 1)).length = s.size - (i + 1) := by rw [List.length_drop, aI]
    by_cases hi : i < s.size
    · refine Ev.ifp (by omega) (Ev.ifp (by omega) (Ev.ifp (by omega) (Ev.bind (rdigits_f (str ((lst s).drop (i + 1))) (by rw [dY]; omega)) ?_)))
      simp only [gM]
      by_cases hp : (lst s).drop (i + 1) = []
      · refine Ev.ifn (by simp [hp]) (Ev.ret ?_)
        rw [if_pos (.inr (.inr ⟨hi, .inl hp⟩))]
      · by_cases ha : ((lst s).drop (i + 1)).all fC = true
        · refine Ev.ifp (by simp [hp, ha]) ?_
          rw [dY]
          by_cases h3 : 3 < ((lst s).drop (i + 1)).length
          · refine Ev.ifp (by omega) (Ev.ret ?_)
            rw [if_pos (.inr (.inr ⟨hi, .inr h3⟩))]
          · refine Ev.ifn (by omega) ?_
            have := rj2_l ((lst s).take i) ((lst s).drop (i + 1)) (by omega) ha
            rw [List.all_append, ha, Bool.and_true]
            by_cases hc : (lst s).take i = [] ∨ (1 < ((lst s).take i).length ∧ ((lst s).take i).head? = some 48)
            · rw [if_pos hc] at this
              rw [if_pos (hc.elim .inl (fun h => .inr (.inl h)))]
              exact this
            · rw [if_neg hc] at this
              rw [if_neg (by rintro (h | h | h); exact hc (.inl h); exact hc (.inr h); rcases h.2 with h | h; exact hp h; exact h3 h)]
              exact this
        · refine Ev.ifn (by simp [ha]) (Ev.ret ?_)
          rw [Bool.not_eq_true] at ha
          rw [List.all_append, ha, Bool.and_false]
          split <;> rfl
    · have hd : (lst s).drop (i + 1) = [] := List.drop_eq_nil_of_le (by rw [aI]; omega)
      refine Ev.ifn (by omega) ?_
      rw [hd]
      have := rj2_l ((lst s).take i) [] (by simp; omega) rfl
      rw [show (str [] : ByteArray) = ⟨#[]⟩ from rfl] at this
      rw [List.append_nil]
      by_cases hc : (lst s).take i = [] ∨ (1 < ((lst s).take i).length ∧ ((lst s).take i).head? = some 48)
      · rw [if_pos hc] at this
        rw [if_pos (hc.elim .inl (fun h => .inr (.inl h)))]
        exact this
      · rw [if_neg hc] at this
        rw [if_neg (by rintro (h | h | h); exact hc (.inl h); exact hc (.inr h); exact hi h.1)]
        exact this
  have loop : ∀ (d i : Nat) (l : List UInt8), i ≤ s.size → s.size - i = d → (lst s).drop i = l → i + l.findIdx (· == 46) = (lst s).findIdx (· == 46) → Ev (fun k => ay.l0 k s i) (numL (lst s)) := by
    intro d
    induction d with
    | zero =>
      intro i l hi hd hl hf
      obtain rfl : i = s.size := by omega
      obtain rfl : l = [] := by rw [← hl]; exact List.drop_eq_nil_of_le (by rw [aI]; omega)
      refine Ev.succ ?_
      simp only [ay.l0]
      refine Ev.ifn (by omega) ?_
      simp only [List.findIdx_nil, Nat.add_zero] at hf
      rw [hf]; exact hj1
    | succ d ih =>
      intro i l hi hd hl hf
      cases l with
      | nil => exact absurd (at_nil hi hl) (by omega)
      | cons c l =>
        obtain ⟨h1, h2, h3⟩ := gp hl
        rw [findIdx_cons] at hf
        refine Ev.succ ?_
        simp only [ay.l0]
        rw [h2, bU i (by omega)]
        refine Ev.ifp (by omega) (Ev.ifp (by omega) ?_)
        by_cases h46 : c.toNat = 46
        · rw [if_pos h46, Nat.add_zero] at hf
          refine Ev.ifp (by omega) ?_
          rw [hf]; exact hj1
        · rw [if_neg h46] at hf
          exact Ev.ifn (by omega) (ih (i + 1) l (by omega) (by omega) h3 (by omega))
  exact loop _ 0 (lst s) (by omega) rfl rfl (by omega)
theorem rtitle_loop (s : ByteArray) (hs : s.size ≤ 1000000) : ∀ (d i : Nat) (l : List UInt8), i ≤ s.size → s.size - i = d → (lst s).drop i = l →
    Ev (fun k => aX.l0 k s i) (if l.any badT then 2 else if 40 < s.size then 6 else 0) := by
  intro d
  induction d with
  | zero =>
    intro i l hi hd hl
    obtain rfl : i = s.size := by omega
    obtain rfl : l = [] := by rw [← hl]; exact List.drop_eq_nil_of_le (by rw [aI]; omega)
    refine Ev.succ ?_
    simp only [aX.l0]
    refine Ev.ifn (by omega) ?_
    by_cases h : 40 < s.size
    · exact Ev.ifp (by omega) (Ev.ret (by simp [h]))
    · exact Ev.ifn (by omega) (Ev.ret (by simp [h]))
  | succ d ih =>
    intro i l hi hd hl
    cases l with
    | nil => exact absurd (at_nil hi hl) (by omega)
    | cons c l =>
      obtain ⟨h1, h2, h3⟩ := gp hl
      refine Ev.succ ?_
      simp only [aX.l0]
      rw [h2, bU i (by omega)]
      refine Ev.ifp (by omega) (Ev.ifp (by omega) ?_)
      by_cases ha : c.toNat < 32
      · exact Ev.ifp (by omega) (Ev.ret (by simp [badT, ha]))
      · refine Ev.ifn (by omega) ?_
        by_cases hb : 126 < c.toNat
        · exact Ev.ifp (by omega) (Ev.ret (by simp [badT, hb]))
        · refine Ev.ifn (by omega) ?_
          by_cases hc : c.toNat = 34
          · exact Ev.ifp (by omega) (Ev.ret (by simp [badT, hc]))
          · refine Ev.ifn (by omega) ?_
            have : badT c = false := by simp [badT, ha, hb, hc]
            simp only [List.any_cons, this, Bool.false_or]
            exact ih (i + 1) l (by omega) (by omega) h3
theorem rtitle_f (s : ByteArray) (hs : s.size ≤ 1000000) : Ev (fun k => aX.f k s) (iU (lst s)) := by
  have hloop := rtitle_loop s hs _ 0 (lst s) (by omega) rfl rfl
  unfold aX.f iU
  by_cases h0 : lst s = []
  · have hz : s.size = 0 := by rw [← aI, h0]; rfl
    refine Ev.ifp (by omega) (Ev.succ ?_)
    simp only [aX.j0]
    exact Ev.ifp (by simp) (Ev.ret (by simp [h0]))
  · have hp : 0 < s.size := by
      rw [← aI]; exact List.length_pos_iff.2 h0
    refine Ev.ifn (by omega) (Ev.ifp (by omega) ?_)
    obtain ⟨c, hc, hb⟩ := lu hp
    obtain ⟨d, hd, he⟩ := last_bt hp
    rw [hb]
    have hw : wrap64 ((s.size : Int) - 1) = ((s.size - 1 : Nat) : Int) := by rw [gq (by omega) (by omega)]; omega
    rw [hw, he, hc, hd]
    have i1 : (some c = some (32 : UInt8)) ↔ c.toNat = 32 := kG (by decide)
    have i2 : (some d = some (32 : UInt8)) ↔ d.toNat = 32 := kG (by decide)
    by_cases h32 : c.toNat = 32
    · refine Ev.ifp (by omega) (Ev.succ ?_)
      simp only [aX.j0]
      exact Ev.ifp (by simp) (Ev.ret (by rw [if_pos (.inr (.inl (i1.2 h32)))]))
    · refine Ev.ifn (by omega) (Ev.ifp (by omega) (Ev.ifp (by omega) (Ev.succ ?_)))
      simp only [aX.j0]
      by_cases hl : d.toNat = 32
      · refine Ev.ifp (by rw [beq_iff_eq]; omega) (Ev.ret (by rw [if_pos (.inr (.inr (i2.2 hl)))]))
      · refine Ev.ifn (by rw [beq_iff_eq]; omega) ?_
        rw [if_neg (by rw [i1, i2]; simp [h0, h32, hl])]
        rw [aI]
        exact hloop
def tokT (n : Nat) (l : List UInt8) : Int × ByteArray × Int × Int × Int × Int :=
  if (tokL l).code = 0 then ((tokL l).kind, str (tokL l).text, (tokL l).n, (n : Int) - l.length, (n : Int) - (tokL l).rest.length, 0)
  else (0, ⟨#[]⟩, 0, 0, 0, (tokL l).code)
theorem rtext_loop (s : ByteArray) (hs : s.size ≤ 1000000) (o : Nat) : ∀ (d i : Nat) (l : List UInt8), o < i → i ≤ s.size → s.size - i = d → (lst s).drop i = l →
    Ev (fun k => aG.l1 k s o i) (match l.dropWhile fG with
      | [] => (0, ⟨#[]⟩, 0, 0, 0, 2)
      | c :: r => if c.toNat = 34 then (if iU (((lst s).take i).drop (o + 1) ++ l.takeWhile fG) = 0 then (3, str (((lst s).take i).drop (o + 1) ++ l.takeWhile fG), 0, (o : Int), (s.size : Int) - r.length, 0) else (0, ⟨#[]⟩, 0, 0, 0, iU (((lst s).take i).drop (o + 1) ++ l.takeWhile fG))) else (0, ⟨#[]⟩, 0, 0, 0, 2)) := by
  have bad : ∀ i : Nat, Ev (fun k => aG.j4 k s o (i : Int) true) (0, ⟨#[]⟩, 0, 0, 0, 2) := by
    intro i
    refine Ev.succ ?_
    simp only [aG.j4]
    exact Ev.ifp (by simp) (Ev.now _)
  intro d
  induction d with
  | zero =>
    intro i l ho hi hd hl
    obtain rfl : i = s.size := by omega
    obtain rfl : l = [] := by rw [← hl]; exact List.drop_eq_nil_of_le (by rw [aI]; omega)
    refine Ev.succ ?_
    simp only [aG.l1]
    refine Ev.ifn (by omega) (Ev.succ ?_)
    simp only [aG.j3]
    exact Ev.ifp (by simp) (bad _)
  | succ d ih =>
    intro i l ho hi hd hl
    cases l with
    | nil => exact absurd (at_nil hi hl) (by omega)
    | cons c l =>
      obtain ⟨h1, h2, h3⟩ := gp hl
      refine Ev.succ ?_
      simp only [aG.l1]
      rw [h2, bU i (by omega)]
      refine Ev.ifp (by omega) (Ev.ifp (by omega) ?_)
      by_cases h34 : c.toNat = 34
      · have hin' : fG c = false := by simp [fG, h34]
        refine Ev.ifp (by omega) (Ev.succ ?_)
        simp only [aG.j3]
        rw [h2]
        refine Ev.ifn (by omega) (Ev.ifp (by omega) (Ev.ifp (by omega) ?_))
        have hq : ((c.toNat : Int) != 34) = false := by rw [bne_eq_false_iff_eq]; omega
        rw [hq]
        refine Ev.succ ?_
        simp only [aG.j4]
        rw [bU o (by omega), bU i (by omega)]
        refine Ev.ifn (by simp) (Ev.ifp (by omega) (Ev.ifp (by omega) (Ev.ifp (by omega) ?_)))
        have hx : s.extract (((o + 1 : Nat) : Int)).toNat ((i : Int)).toNat = str (((lst s).take i).drop (o + 1)) := by
          apply ic; rw [eO]; rfl
        rw [hx]
        have ht := rtitle_f (str (((lst s).take i).drop (o + 1))) (by rw [dY, List.length_drop, List.length_take, aI]; omega)
        refine Ev.bind ht ?_
        rw [List.dropWhile_cons_of_neg (by simp [hin']), List.takeWhile_cons_of_neg (by simp [hin']), List.append_nil]
        simp only [h34, if_true, gM]
        have hr : (s.size : Int) - (l.length : Int) = ((i + 1 : Nat) : Int) := by
          rw [← h3, List.length_drop, aI]; omega
        rw [hr]
        by_cases hz : iU (((lst s).take i).drop (o + 1)) = 0
        · exact Ev.ifp hz (Ev.ret (by rw [if_pos hz]))
        · exact Ev.ifn hz (Ev.ret (by rw [if_neg hz]))
      · refine Ev.ifn (by omega) ?_
        by_cases h10 : c.toNat = 10
        · have hin' : fG c = false := by simp [fG, h10]
          refine Ev.ifp (by omega) (Ev.succ ?_)
          simp only [aG.j3]
          rw [h2]
          refine Ev.ifn (by omega) (Ev.ifp (by omega) (Ev.ifp (by omega) ?_))
          have hq : ((c.toNat : Int) != 34) = true := by rw [bne_iff_ne]; omega
          rw [hq, List.dropWhile_cons_of_neg (by simp [hin'])]
          simp only [h34, if_false]
          exact bad i
        · have hin' : fG c = true := by simp [fG, h34, h10]
          refine Ev.ifn (by omega) ?_
          have htk : ((lst s).take (i + 1)).drop (o + 1) = ((lst s).take i).drop (o + 1) ++ [c] := by
            have e : (lst s).take (i + 1) = (lst s).take i ++ [c] := by
              rw [List.take_succ_eq_append_getElem (by rw [aI]; exact h1)]
              congr 2
              have := congrArg (·[0]?) hl
              simp only [List.getElem?_drop, Nat.add_zero, List.getElem?_cons_zero] at this
              exact (List.getElem?_eq_some_iff.1 this).2
            rw [e, List.drop_append_of_le_length (by rw [List.length_take, aI]; omega)]
          have := ih (i + 1) l (by omega) (by omega) (by omega) h3
          rw [htk] at this
          rw [List.dropWhile_cons_of_pos hin', List.takeWhile_cons_of_pos hin']
          simpa only [List.append_assoc, List.singleton_append] using this
theorem rcls (t rest : List UInt8) (ht : t ≠ []) (s : ByteArray) (hst : lst s = t) (hs : s.size ≤ 1000000) (o e : Int) :
    Ev (fun k => if s.toList = ([] : List UInt8) then (some ((0 : Int), (⟨#[]⟩ : ByteArray), (0 : Int), (0 : Int), (0 : Int), (2 : Int))) else ((bA.f k s true false).bind fun t216 => (if t216 = true then ((bA.f k s false true).bind fun t217 => (if t217 = true then (some (0, (⟨#[]⟩ : ByteArray), 0, 0, 0, 2)) else (if (s.size : Int) > 32 then (some (0, (⟨#[]⟩ : ByteArray), 0, 0, 0, 6)) else (some (1, s, 0, o, e, 0))))) else ((ay.f k s).bind fun bt218 => (if bt218.2 = 0 then (some (2, (⟨#[]⟩ : ByteArray), bt218.1, o, e, 0)) else (some (0, (⟨#[]⟩ : ByteArray), 0, 0, 0, bt218.2)))))))
      (if (clsL t rest).code = 0 then ((clsL t rest).kind, str (clsL t rest).text, (clsL t rest).n, o, e, 0) else (0, ⟨#[]⟩, 0, 0, 0, (clsL t rest).code)) := by
  subst hst
  refine Ev.ifn (by rw [dx]; exact ht) ?_
  have h1 := rhas_f s hs true _ 0 (lst s) (by omega) rfl rfl
  have h2 := rhas_f s hs false _ 0 (lst s) (by omega) rfl rfl
  simp only [if_true] at h1
  refine Ev.bind h1 ?_
  unfold clsL
  by_cases hl : (lst s).any isLet = true
  · refine Ev.ifp hl (Ev.bind h2 ?_)
    rw [if_pos (let_num _ hl)]
    unfold wordL
    simp only [Bool.false_eq_true, if_false, hl, if_true, aI]
    by_cases hd : (lst s).any lq = true
    · refine Ev.ifp hd (Ev.ret ?_)
      simp [hd]
    · refine Ev.ifn hd ?_
      rw [Bool.not_eq_true] at hd
      simp only [hd, Bool.false_eq_true, if_false]
      by_cases h32 : 32 < s.size
      · exact Ev.ifp (by omega) (Ev.ret (by simp [h32]))
      · exact Ev.ifn (by omega) (Ev.ret (by simp [h32]))
  · refine Ev.ifn hl (Ev.bind (rnumber_f s hs) ?_)
    rw [Bool.not_eq_true] at hl
    by_cases h : (numL (lst s)).2 = 2
    · rw [if_pos h]
      refine Ev.ifn (by omega) (Ev.ret ?_)
      rw [h]
      unfold wordL
      simp [hl]
    · rw [if_neg h]
      by_cases h0 : (numL (lst s)).2 = 0
      · exact Ev.ifp h0 (Ev.ret (by simp only [h0, if_true]; rfl))
      · exact Ev.ifn h0 (Ev.ret (by simp only [h0, if_false]))
theorem rtoken_f (s : ByteArray) (hs : s.size ≤ 1000000) (o : Nat) (L : List UInt8) (ho : o ≤ s.size) (hL : (lst s).drop o = L) : Ev (fun k => aG.f k s o) (tokT s.size L) := by
  have hlenL : (s.size : Int) - L.length = (o : Int) := by rw [← hL, List.length_drop, aI]; omega
  unfold aG.f
  cases L with
  | nil =>
    obtain rfl := at_nil ho hL
    refine Ev.ifp rfl (Ev.ret ?_)
    simp [tokT, tokL, str]
  | cons c L =>
    obtain ⟨g1, g2, g3⟩ := gp hL
    refine Ev.ifn (by omega) ?_
    have hone : ((lst s).take (o + 1)).drop o = [c] := by
      rw [List.take_succ_eq_append_getElem (by rw [aI]; exact g1), List.drop_append_of_le_length (by rw [List.length_take, aI]; omega), List.drop_eq_nil_of_le (by rw [List.length_take]; omega)]
      have := congrArg (·[0]?) hL
      simp only [List.getElem?_drop, Nat.add_zero, List.getElem?_cons_zero] at this
      rw [(List.getElem?_eq_some_iff.1 this).2]; rfl
    have hj1 : ∀ (i : Nat) (l : List UInt8), o ≤ i → i ≤ s.size → (lst s).drop i = l → ((lst s).take i).drop o = (c :: L).takeWhile bQ → l = (c :: L).dropWhile bQ → Ev (fun k => aG.j1 k s o i) (tokT s.size (c :: L)) := by
      intro i l hoi hi hl ht hr
      have hx : s.extract ((o : Int)).toNat ((i : Int)).toNat = str ((c :: L).takeWhile bQ) := by
        apply ic; rw [eO, gM, ← ht]; rfl
      have hil : (s.size : Int) - (l.length : Int) = (i : Int) := by rw [← hl, List.length_drop, aI]; omega
      refine Ev.succ ?_
      simp only [aG.j1]
      rw [g2, bU o (by omega), hx]
      refine Ev.ifp (by omega) (Ev.ifp (by omega) (Ev.ifp (by omega) (Ev.ifp (by omega) ?_)))
      unfold tokT
      rw [hlenL]
      by_cases h34 : c.toNat = 34
      · have hrun : bQ c = false := by
          rw [← Bool.not_eq_true]; intro h
          have h2 := kind2 c.toNat; have h3 := kind3 c.toNat; have h4 := kind4 c.toNat
          simp only [bQ, Bool.or_eq_true, beq_iff_eq, h2, h3, h4] at h; omega
        have ht2 : tokL (c :: L) = gQ L := by
          unfold tokL; dsimp only; rw [if_neg (by simp [hrun]), if_pos h34]
        rw [ht2]
        refine Ev.ifp (by omega) ?_
        have h := rtext_loop s hs o _ (o + 1) L (by omega) (by omega) rfl g3
        rw [List.drop_eq_nil_of_le (by rw [List.length_take]; omega)] at h
        simp only [List.nil_append] at h
        unfold gQ
        cases hd : L.dropWhile fG with
        | nil => rw [hd] at h; simpa using h
        | cons e r =>
          rw [hd] at h
          by_cases h34 : e.toNat = 34
          · simp only [h34, if_true] at h ⊢; exact h
          · simp only [h34, if_false] at h ⊢; exact h
      · refine Ev.ifn (by omega) (Ev.bind (rsign_f c) ?_)
        by_cases h5 : kindOf c.toNat = 5
        · have hrun : bQ c = false := by simp [bQ, h5]
          have ht2 : tokL (c :: L) = ⟨4, [c], 0, L, 0⟩ := by
            unfold tokL; dsimp only; rw [if_neg (by simp [hrun]), if_neg h34, if_pos h5]
          rw [ht2]
          refine Ev.ifp (by simp [h5]) (Ev.ifp (by omega) (Ev.ifp (by omega) (Ev.ret ?_)))
          have hy : s.extract ((o : Int)).toNat (((o + 1 : Nat) : Int)).toNat = str [c] := by
            apply ic; rw [eO, gM, ← hone]; rfl
          have hr2 : (s.size : Int) - (L.length : Int) = ((o + 1 : Nat) : Int) := by
            rw [← g3, List.length_drop, aI]; omega
          rw [hy]
          simp only [if_true, hr2]
        · refine Ev.ifn (by simp [h5]) ?_
          by_cases hrun : bQ c = true
          · have ht2 : tokL (c :: L) = clsL ((c :: L).takeWhile bQ) ((c :: L).dropWhile bQ) := by
              rw [List.takeWhile_cons_of_pos hrun, List.dropWhile_cons_of_pos hrun]
              unfold tokL; dsimp only; rw [if_pos hrun]
            rw [ht2, ← hr]
            have hrest : ∀ x : List UInt8, (clsL x l).rest = l := by intro x; unfold clsL; split <;> rfl
            rw [hrest, hil]
            exact rcls ((c :: L).takeWhile bQ) l (by rw [List.takeWhile_cons_of_pos hrun]; simp) (str ((c :: L).takeWhile bQ)) rfl (by
              rw [dY]
              have := (List.takeWhile_prefix bQ (l := c :: L)).length_le
              have h2 : (c :: L).length ≤ s.size := by rw [← hL, List.length_drop, aI]; omega
              omega) o i
          · have ht2 : tokL (c :: L) = ⟨0, [], 0, [], 2⟩ := by
              unfold tokL; dsimp only; rw [if_neg hrun, if_neg h34, if_neg h5]
            rw [ht2, List.takeWhile_cons_of_neg hrun]
            exact Ev.ifp (by rw [dx]; rfl) (Ev.ret (by simp))
    have loop : ∀ (d i : Nat) (l : List UInt8), o ≤ i → i ≤ s.size → s.size - i = d → (lst s).drop i = l → (((lst s).take i).drop o) ++ l.takeWhile bQ = (c :: L).takeWhile bQ → l.dropWhile bQ = (c :: L).dropWhile bQ →
        Ev (fun k => aG.l0 k s o i) (tokT s.size (c :: L)) := by
      intro d
      induction d with
      | zero =>
        intro i l hoi hi hd hl ht hr
        obtain rfl : i = s.size := by omega
        obtain rfl : l = [] := by rw [← hl]; exact List.drop_eq_nil_of_le (by rw [aI]; omega)
        refine Ev.succ ?_
        simp only [aG.l0]
        exact Ev.ifn (by omega) (hj1 _ [] hoi hi hl (by simpa using ht) (by simpa using hr))
      | succ d ih =>
        intro i l hoi hi hd hl ht hr
        cases l with
        | nil => exact absurd (at_nil hi hl) (by omega)
        | cons e l =>
          obtain ⟨h1, h2, h3⟩ := gp hl
          refine Ev.succ ?_
          simp only [aG.l0]
          rw [h2, bU i (by omega)]
          refine Ev.ifp (by omega) (Ev.ifp (by omega) (Ev.val (rrun_f e) ?_))
          by_cases hrn : bQ e = true
          · refine Ev.ifp hrn ?_
            have htk : ((lst s).take (i + 1)).drop o = ((lst s).take i).drop o ++ [e] := by
              have e2 : (lst s).take (i + 1) = (lst s).take i ++ [e] := by
                rw [List.take_succ_eq_append_getElem (by rw [aI]; exact h1)]
                congr 2
                have := congrArg (·[0]?) hl
                simp only [List.getElem?_drop, Nat.add_zero, List.getElem?_cons_zero] at this
                exact (List.getElem?_eq_some_iff.1 this).2
              rw [e2, List.drop_append_of_le_length (by rw [List.length_take, aI]; omega)]
            rw [List.takeWhile_cons_of_pos hrn] at ht
            rw [List.dropWhile_cons_of_pos hrn] at hr
            refine ih (i + 1) l (by omega) (by omega) (by omega) h3 ?_ hr
            rw [htk, List.append_assoc, List.singleton_append]; exact ht
          · refine Ev.ifn hrn ?_
            rw [List.takeWhile_cons_of_neg hrn, List.append_nil] at ht
            rw [List.dropWhile_cons_of_neg hrn] at hr
            exact hj1 i (e :: l) hoi hi hl ht hr
    exact loop _ o (c :: L) (by omega) ho rfl hL (by rw [List.drop_eq_nil_of_le (by rw [List.length_take]; omega)]; rfl) rfl
theorem rnext_f (s : ByteArray) (hs : s.size ≤ 65536) (i : Nat) (hi : i ≤ s.size) : Ev (fun k => bM.f k s i) (nextT s.size (dw false ((lst s).drop i))) := by
  unfold bM.f
  refine Ev.ifn (by omega) (Ev.ifn (by omega) ?_)
  have : decide ((i : Int) > (s.size : Int)) = false := by simp; omega
  rw [this]
  refine Ev.succ ?_
  simp only [bM.j0]
  refine Ev.ifn (by simp) (Ev.bind (rskip_f s (by omega) i hi) ?_)
  obtain ⟨j, hj, hl, he⟩ := suffix_at ((iV ((lst s).drop i) false).trans (List.drop_suffix i (lst s)))
  rw [he]
  generalize dw false ((lst s).drop i) = l at hl he ⊢
  refine Ev.bind (rtoken_f s (by omega) j l hj hl) ?_
  unfold tokT nextT
  by_cases hc : (tokL l).code = 0
  · rw [if_pos hc, if_pos hc]
    exact Ev.ifp rfl (Ev.now _)
  · rw [if_neg hc, if_neg hc, he]
    exact Ev.ret (by rw [if_neg hc])
theorem rLex_f (s : ByteArray) (hs : s.size ≤ 65536) : Ev (fun k => bN.f k s) (lm s.size [] (lexL (s.size + 1) (lst s))) := by
  unfold bN.f
  exact lex_any s (by omega) (fun k i => bM.f k s i) (fun i hi => rnext_f s (by omega) i hi) (fun k a i => bN.l0 k s a i) (fun k a i => by simp only [bN.l0]) (s.size + 1) 0 (lst s) [] (by omega) rfl (by rw [aI]; omega) (by simp)
theorem rParse_f (s : ByteArray) (hs : s.size ≤ 65536) {y : List S41 × Int × Int} (h : PA s y) : Ev (fun k => bn.f k s) y := by
  unfold bn.f
  refine Ev.bind (rLex_f s hs) ?_
  cases h with
  | byte e h =>
    rw [h]
    exact Ev.ifn (kg _ _ _ h) (Ev.now _)
  | tok us e h h1 =>
    rw [ko s h]
    exact Ev.ifp rfl (rparse_f _ (by have := jC s h; omega) h1)
  | good us cs h h1 =>
    rw [ko s h]
    exact Ev.ifp rfl (rparse_f _ (by have := jC s h; omega) h1)
end Go.Proofs.YtkifdadhojbohaaGreatDoor.Pu
