/- Joined out of the texts of this proof that bear the names PrE1 PrF49 PrF47 PyCa: what each shows stands over it there. -/
import Derived.Test.YtkifdadhojbohaaGreatDoorEk1
import Derived.Test.YtkifdadhojbohaaGreatDoorEp2
import Derived.Test.YtkifdadhojbohaaGreatDoorEp1
set_option linter.unusedVariables false
set_option linter.unusedSimpArgs false
set_option maxHeartbeats 8000000
set_option maxRecDepth 100000
namespace Go.Proofs.YtkifdadhojbohaaGreatDoor.Pr
open Go.Proofs.YtkifdadhojbohaaGreatDoor
open Go.RowKit Go.Proofs.YtkifdadhojbohaaGreatDoorW.PrintWords Go.Proofs.YtkifdadhojbohaaGreatDoorW.PrintLast Go.Proofs.YtkifdadhojbohaaGreatDoorW.PrintMore
attribute [local go_sem] fU fQ gL gK eT eQ fT fP
theorem eqA26 (d : Nat) (w : World) (x0 y0 : Int) (x1 y1 : Int) :
  (Op.equalIn (d + 2) 40 (.agg #[.int .i64 x0, .int .i64 x1]) (.agg #[.int .i64 y0, .int .i64 y1])).run Tryz.prog w = .ok (x0 == y0 && (x1 == y1)) w := by
 refine eqA_of Tryz.underlying40 (by kernel_rfl) ?_
 refine eqf_cons (by rfl) (by go_simp; rfl) (by go_simp; rfl) (by go_simp) ?_
 exact eqf_last (by rfl) (by go_simp; rfl) (by go_simp; rfl) (by go_simp)
def bC.f (k : Nat) (a0 : ByteArray) : Option (ByteArray × Int × Int) := (bV.f k a0).bind fun bt111 => (if bt111.2.1 = 0 then ((dA.f k bt111.1).bind fun bt117 => (if bt117.2 = 0 then (some (bt117.1, 0, 0)) else (some ((⟨#[]⟩ : ByteArray), bt117.2, 65536)))) else (some ((⟨#[]⟩ : ByteArray), bt111.2.1, bt111.2.2)))
theorem bC.mono : ∀ a0 k, LeO (bC.f k a0) (bC.f (k + 1) a0) := by
 intro a0 k
 unfold bC.f
 repeat' first
   | (with_reducible exact LeO.refl _)
   | exact bV.mono _ _
   | exact dA.mono _ _
   | exact LeO.none _
   | refine LeO.ite ?_ ?_
   | refine LeO.bind ?_ (fun _ => ?_)
theorem bC.calls (k : Nat) (a0 : ByteArray) (r1 : ByteArray) (r2 : Int) (r3 : Int) (w : World) (hG : Gl w) (h : bC.f k a0 = some (r1, r2, r3)) :
  Calls Tryz.prog 20 #[.string a0] w fun e w' => e = .returned (.tuple #[.string r1, .agg #[.int .i64 r2, .int .i64 r3]]) ∧ Below w.heap.size w w' := by
 have hu26 := Tryz.underlying40; have HB := af.mk (Below.refl w.heap.size w); have H : ((bV.f k a0).bind fun bt111 => (if bt111.2.1 = 0 then ((dA.f k bt111.1).bind fun bt117 => (if bt117.2 = 0 then (some (bt117.1, 0, 0)) else (some ((⟨#[]⟩ : ByteArray), bt117.2, 65536)))) else (some ((⟨#[]⟩ : ByteArray), bt111.2.1, bt111.2.2)))) = some (r1, r2, r3) := h; clear h; replace H := bn_ H; obtain ⟨⟨t111, t114, t115⟩, A2, H⟩ := H; (try dsimp only at H); replace H := (sp_ H).symm; obtain ⟨c3, H⟩ | ⟨c3, H⟩ := H
 ·
  have c3b0 := beq_eq_false_iff_ne.mpr c3; have c3b1 := bne_iff_ne.mpr c3; simp only [Option.some.injEq, Prod.mk.injEq] at H; obtain ⟨rfl, rfl, rfl⟩ := H
  go_enter Tryz.func20, Tryz.ntmps20
  try go_wp2_with (first | ((with_reducible refine aA (N := 3) rfl ?_); refine bx_ (N := 3) (cs := #[.int .i64 0, .int .i64 0]) (t := 40) ?_; intro gb110 hg w22 hbox hb; refine df (ah (bl_ HB.1) hb) (hbox) (bz_ (w := w) hg (bl_ HB.1)) (bz_ (w := w) hg (bl_ HB.1)) ?_; clear HB; intro HB BK110 GW110 GE110; clear hb hbox hg) | ((with_reducible refine aj (f := 37) rfl ?_); refine gk_ (some 10) Tryz.func37 (bV.calls k a0 t111 t114 t115 _ A2.1) ?_; rintro e w23 ⟨v112, rfl, ho0, hb⟩; refine ⟨_, rfl, ?_⟩; refine fu (Kd.dB ho0 (bH (bl1_ HB.1 GE110.1))) (bb_ BK110.1 hb) (ah (bl1_ HB.1 GE110.1) hb) ?_; clear hb BK110 HB; intro HO113 BK110 HB; (try clear ho0)) | ((with_reducible refine aA (N := 5) rfl ?_); refine bx_ (N := 5) (cs := #[.int .i64 0, .int .i64 0]) (t := 40) ?_; intro gb116 hg w24 hbox hb; refine jm (Kd.aW (rR_ HO113.1) hb) (bb_ BK110.1 hb) (ah (bl1_ HB.1 GE110.1) hb) (hbox) (bz_ (w := w) hg (bl1_ HB.1 GE110.1)) (bz_ (w := w) hg (bl1_ HB.1 GE110.1)) (nl_ hg BK110.1) (ng_ hg BK110.1) ?_; clear HO113 BK110 HB; intro HO113 BK110 HB BK116 GW116 GE116 NB110_116 NB116_110; clear hb hbox hg; have hnb25 := NB116_110.1; have hnc25 := NB110_116.1; obtain ⟨hcz26_0, hcz26_1, hfz26_0, hfz26_1⟩ := cq2_ BK116.1))
  have n0_ : af (Kd.R k41 25 ((w24.setCell ⟨gb116, 0, none⟩ (.int .i64 t114)).setCell ⟨gb116, 1, none⟩ (.int .i64 t115)) w.heap.size (fun _ => True) v112 t111) := ⟨rR_ (Kd.aQ (rf2_ gb116 (Kd.bu HO113.1 BK116.1 (by decide))) (fun _ hk => trivial))⟩; have n1_ : af (((w24.setCell ⟨gb116, 0, none⟩ (.int .i64 t114)).setCell ⟨gb116, 1, none⟩ (.int .i64 t115)).heap[gb110]? = some (.cells #[.int .i64 0, .int .i64 0] 40 (0, 0))) := ⟨dC (bk_ BK110.1) NB110_116.1⟩; have n2_ : af (((w24.setCell ⟨gb116, 0, none⟩ (.int .i64 t114)).setCell ⟨gb116, 1, none⟩ (.int .i64 t115)).heap[gb116]? = some (.cells #[.int .i64 t114, .int .i64 t115] 40 (0, 0))) := ⟨gU (bk_ BK116.1)⟩; have n3_ : af (Below w.heap.size w ((w24.setCell ⟨gb116, 0, none⟩ (.int .i64 t114)).setCell ⟨gb116, 1, none⟩ (.int .i64 t115))) := ⟨bl2_ HB.1 GE110.1 GE116.1⟩; (try clear HO113); (try clear BK110); (try clear BK116); (try clear HB); generalize ((w24.setCell ⟨gb116, 0, none⟩ (.int .i64 t114)).setCell ⟨gb116, 1, none⟩ (.int .i64 t115)) = w27 at n0_ n1_ n2_ n3_ ⊢; have HO113 := n0_; have BK110 := n1_; have BK116 := n2_; have HB := n3_; clear n0_ n1_ n2_ n3_; refine df (Kd.dU HO113.1) (bI BK110.1) (bI BK116.1) (bD HB.1) ?_; clear HO113 BK110 BK116 HB; intro HO113 BK110 BK116 HB; refine dX (n := 3) (S := fun w' => w'.cell? ⟨gb116, 0, none⟩ = some (.int .i64 t114) ∧ w'.cell? ⟨gb116, 1, none⟩ = some (.int .i64 t115)) (ds := []) #[false, false, false] (by kernel_rfl) rfl rfl ⟨ce_ BK116.1 0, ce_ BK116.1 1⟩ (fun hHeld => ?_); generalize w27.drew = w28 at HO113 BK110 BK116 HB hHeld ⊢; refine pr_ (i := 1) (N := some 2) #[false, true, false] (by kernel_rfl) ?_; refine take_ (i := 0) (N := some 16) (v := ?_) (a' := ?_) #[true, true, false] rfl rfl (by kernel_rfl) (fun _ _ _ h => h) (Or.inl ⟨by rfl, ?_⟩) hHeld ?_ ?_; rotate_left
  ·
   rintro w' ⟨s0, s1⟩; go_simp
   with_reducible rfl
  rotate_left
  ·
   simp only [Act.put, List.setIfInBounds_toArray, List.set_cons_zero, List.set_cons_succ, cz, cK]
   rfl
  refine one_ (i := 2) (N := none) #[true, true, true] rfl rfl (by kernel_rfl) (by decide) (fun K hK => ?_); have hs29 : w28.cell? ⟨gb110, 0, none⟩ = some (.int .i64 0) := (ax BK110.1 0).trans rfl; have hfs29 := aC BK110.1 0; have hns29_1 := NB116_110.1; have hms29_1 := NB110_116.1; have hs30 : w28.cell? ⟨gb110, 1, none⟩ = some (.int .i64 0) := (ax BK110.1 1).trans rfl; have hfs30 := aC BK110.1 1; have hns30_1 := NB116_110.1; have hms30_1 := NB110_116.1; refine sk_ ?_; refine hK.out _ _ ⟨(cf2_ gb110 NB116_110.1 hHeld.1), (cf2_ gb110 NB116_110.1 hHeld.2)⟩ (fun hHeld => ?_); clear hK K; refine gB (by kernel_rfl) ?_
  try go_wp2
  refine bodyPost_ret (eF rfl _ _ gb110 40 #[.int .i64 t114, .int .i64 t115] (0, 0) _ rfl (by exact gU (bk_ BK110.1)) Tryz.underlying40 rfl (by kernel_rfl)) rfl ?_; exact ⟨er_, bl2_ HB.1 GE110.1 GE116.1⟩
 have c3b0 := beq_iff_eq.mpr c3; have c3b1 := bne_eq_false_iff_eq.mpr c3; clear c3; replace H := bn_ H; obtain ⟨⟨t117, t118⟩, A4, H⟩ := H; (try dsimp only at H); replace H := (sp_ H).symm; obtain ⟨c5, H⟩ | ⟨c5, H⟩ := H
 ·
  have c5b0 := beq_eq_false_iff_ne.mpr c5; have c5b1 := bne_iff_ne.mpr c5; simp only [Option.some.injEq, Prod.mk.injEq] at H; obtain ⟨rfl, rfl, rfl⟩ := H
  go_enter Tryz.func20, Tryz.ntmps20
  go_wp2_with (first | ((with_reducible refine aA (N := 3) rfl ?_); refine bx_ (N := 3) (cs := #[.int .i64 0, .int .i64 0]) (t := 40) ?_; intro gb110 hg w14 hbox hb; refine df (ah (bl_ HB.1) hb) (hbox) (bz_ (w := w) hg (bl_ HB.1)) (bz_ (w := w) hg (bl_ HB.1)) ?_; clear HB; intro HB BK110 GW110 GE110; clear hb hbox hg) | ((with_reducible refine aj (f := 37) rfl ?_); refine gk_ (some 10) Tryz.func37 (bV.calls k a0 t111 t114 t115 _ A2.1) ?_; rintro e w15 ⟨v112, rfl, ho0, hb⟩; refine ⟨_, rfl, ?_⟩; refine fu (Kd.dB ho0 (bH (bl1_ HB.1 GE110.1))) (bb_ BK110.1 hb) (ah (bl1_ HB.1 GE110.1) hb) ?_; clear hb BK110 HB; intro HO113 BK110 HB; (try clear ho0)) | ((with_reducible refine aA (N := 5) rfl ?_); refine bx_ (N := 5) (cs := #[.int .i64 0, .int .i64 0]) (t := 40) ?_; intro gb116 hg w16 hbox hb; refine jm (Kd.aW (rR_ HO113.1) hb) (bb_ BK110.1 hb) (ah (bl1_ HB.1 GE110.1) hb) (hbox) (bz_ (w := w) hg (bl1_ HB.1 GE110.1)) (bz_ (w := w) hg (bl1_ HB.1 GE110.1)) (nl_ hg BK110.1) (ng_ hg BK110.1) ?_; clear HO113 BK110 HB; intro HO113 BK110 HB BK116 GW116 GE116 NB110_116 NB116_110; clear hb hbox hg; have hnb17 := NB116_110.1; have hnc17 := NB110_116.1; obtain ⟨hcz18_0, hcz18_1, hfz18_0, hfz18_1⟩ := cq2_ BK116.1; obtain ⟨Ao19, co19, eo19⟩ := Kd.cO HO113.1; subst eo19) | ((with_reducible refine aj (f := 11) rfl ?_); refine gk_ (some 19) Tryz.func11 (dA.calls k _ _ t111 t117 t118 _ ?side1 ?side2 ?side3 A4.1) ?_; (case side1 => exact Gl.below hG (bl2_ HB.1 GE110.1 GE116.1)); (case side2 => refine (Kd.d9 (e := 25) (base := w.heap.size) (ok := fun k_ => True) (n := t111.length) (c := co19) ?_).2.2; exact (rR_ (Kd.aQ (rf2_ gb116 (Kd.bu HO113.1 BK116.1 (by decide))) (fun _ h_ => h_.1)))); (case side3 => exact (Kd.d9 HO113.1).2.1); rintro e w20 ⟨rfl, hb⟩; refine ⟨_, rfl, ?_⟩; refine df (Kd.aW (rR_ (Kd.aQ (rf2_ gb116 (Kd.bu HO113.1 BK116.1 (by decide))) (fun _ h_ => h_.1))) hb) (aZ (g := gb110) (o := .cells #[.int .i64 0, .int .i64 0] 40 (0, 0)) (dC (bk_ BK110.1) NB110_116.1) hb) (aZ (g := gb116) (o := .cells #[.int .i64 t114, .int .i64 t115] 40 (0, 0)) (gU (bk_ BK116.1)) hb) (ah (bl2_ HB.1 GE110.1 GE116.1) hb) ?_; clear hb HO113 BK110 BK116 HB; intro HO113 BK110 BK116 HB; obtain ⟨hcz21_0, hcz21_1, hfz21_0, hfz21_1⟩ := cq2_ BK110.1))
  refine bodyPost_ret (eF rfl _ _ gb110 40 #[.int .i64 t118, .int .i64 65536] (0, 0) _ rfl (by exact gU (bk_ BK110.1)) Tryz.underlying40 rfl (by kernel_rfl)) rfl ?_; exact ⟨er_, bl2_ HB.1 GE110.1 GE116.1⟩
 have c5b0 := beq_iff_eq.mpr c5; have c5b1 := bne_eq_false_iff_eq.mpr c5; clear c5; simp only [Option.some.injEq, Prod.mk.injEq] at H; obtain ⟨rfl, rfl, rfl⟩ := H
 go_enter Tryz.func20, Tryz.ntmps20
 go_wp2_with (first | ((with_reducible refine aA (N := 3) rfl ?_); refine bx_ (N := 3) (cs := #[.int .i64 0, .int .i64 0]) (t := 40) ?_; intro gb110 hg w6 hbox hb; refine df (ah (bl_ HB.1) hb) (hbox) (bz_ (w := w) hg (bl_ HB.1)) (bz_ (w := w) hg (bl_ HB.1)) ?_; clear HB; intro HB BK110 GW110 GE110; clear hb hbox hg) | ((with_reducible refine aj (f := 37) rfl ?_); refine gk_ (some 10) Tryz.func37 (bV.calls k a0 t111 t114 t115 _ A2.1) ?_; rintro e w7 ⟨v112, rfl, ho0, hb⟩; refine ⟨_, rfl, ?_⟩; refine fu (Kd.dB ho0 (bH (bl1_ HB.1 GE110.1))) (bb_ BK110.1 hb) (ah (bl1_ HB.1 GE110.1) hb) ?_; clear hb BK110 HB; intro HO113 BK110 HB; (try clear ho0)) | ((with_reducible refine aA (N := 5) rfl ?_); refine bx_ (N := 5) (cs := #[.int .i64 0, .int .i64 0]) (t := 40) ?_; intro gb116 hg w8 hbox hb; refine jm (Kd.aW (rR_ HO113.1) hb) (bb_ BK110.1 hb) (ah (bl1_ HB.1 GE110.1) hb) (hbox) (bz_ (w := w) hg (bl1_ HB.1 GE110.1)) (bz_ (w := w) hg (bl1_ HB.1 GE110.1)) (nl_ hg BK110.1) (ng_ hg BK110.1) ?_; clear HO113 BK110 HB; intro HO113 BK110 HB BK116 GW116 GE116 NB110_116 NB116_110; clear hb hbox hg; have hnb9 := NB116_110.1; have hnc9 := NB110_116.1; obtain ⟨hcz10_0, hcz10_1, hfz10_0, hfz10_1⟩ := cq2_ BK116.1; obtain ⟨Ao11, co11, eo11⟩ := Kd.cO HO113.1; subst eo11) | ((with_reducible refine aj (f := 11) rfl ?_); refine gk_ (some 19) Tryz.func11 (dA.calls k _ _ t111 t117 t118 _ ?side1 ?side2 ?side3 A4.1) ?_; (case side1 => exact Gl.below hG (bl2_ HB.1 GE110.1 GE116.1)); (case side2 => refine (Kd.d9 (e := 25) (base := w.heap.size) (ok := fun k_ => True) (n := t111.length) (c := co11) ?_).2.2; exact (rR_ (Kd.aQ (rf2_ gb116 (Kd.bu HO113.1 BK116.1 (by decide))) (fun _ h_ => h_.1)))); (case side3 => exact (Kd.d9 HO113.1).2.1); rintro e w12 ⟨rfl, hb⟩; refine ⟨_, rfl, ?_⟩; refine df (Kd.aW (rR_ (Kd.aQ (rf2_ gb116 (Kd.bu HO113.1 BK116.1 (by decide))) (fun _ h_ => h_.1))) hb) (aZ (g := gb110) (o := .cells #[.int .i64 0, .int .i64 0] 40 (0, 0)) (dC (bk_ BK110.1) NB110_116.1) hb) (aZ (g := gb116) (o := .cells #[.int .i64 t114, .int .i64 t115] 40 (0, 0)) (gU (bk_ BK116.1)) hb) (ah (bl2_ HB.1 GE110.1 GE116.1) hb) ?_; clear hb HO113 BK110 BK116 HB; intro HO113 BK110 BK116 HB; obtain ⟨hcz13_0, hcz13_1, hfz13_0, hfz13_1⟩ := cq2_ BK110.1))
 refine bodyPost_ret (eF rfl _ _ gb110 40 #[.int .i64 0, .int .i64 0] (0, 0) _ rfl (by exact gU (bk_ BK110.1)) Tryz.underlying40 rfl (by kernel_rfl)) rfl ?_; exact ⟨er_, bl2_ HB.1 GE110.1 GE116.1⟩
attribute [local go_sem high] eqA26
def bZ.f (k : Nat)  : Option (Bool) := (bC.f k (⟨#[103, 114, 111, 117, 112, 32, 106, 117, 109, 112, 32, 108, 105, 109, 105, 116, 32, 51, 59, 115, 101, 103, 109, 101, 110, 116, 32, 102, 114, 101, 101, 123, 99, 111, 117, 110, 116, 32, 55, 32, 59, 115, 99, 111, 114, 101, 32, 109, 105, 110, 40, 97, 44, 50, 46, 53, 48, 41, 42, 40, 32, 98, 32, 41, 59, 125]⟩ : ByteArray)).bind fun bt119 => (if (bt119.2.1 == 0 && (bt119.2.2 == 0)) = true then (some (bt119.1.toList == ([103, 114, 111, 117, 112, 32, 106, 117, 109, 112, 32, 108, 105, 109, 105, 116, 32, 51, 59, 10, 115, 101, 103, 109, 101, 110, 116, 32, 102, 114, 101, 101, 32, 123, 10, 32, 32, 99, 111, 117, 110, 116, 32, 55, 59, 10, 32, 32, 115, 99, 111, 114, 101, 32, 109, 105, 110, 32, 40, 97, 44, 32, 50, 46, 53, 41, 32, 42, 32, 40, 98, 41, 59, 10, 125, 10] : List UInt8))) else (none))
theorem bZ.mono : ∀ k, LeO (bZ.f k ) (bZ.f (k + 1) ) := by
 intro  k
 unfold bZ.f
 repeat' first
   | (with_reducible exact bC.mono _ _)
   | (with_reducible exact LeO.refl _)
   | (with_reducible exact LeO.none _)
   | (with_reducible refine LeO.ite ?_ ?_)
   | (with_reducible refine LeO.bind ?_ (fun _ => ?_))
   | exact bC.mono _ _
   | exact LeO.none _
   | refine LeO.ite ?_ ?_
   | refine LeO.bind ?_ (fun _ => ?_)
theorem bZ.calls (k : Nat)  (r : Bool) (w : World) (hG : Gl w) (h : bZ.f k  = some r) :
  Calls Tryz.prog 6 #[] w fun e w' => e = .returned (.bool r) ∧ Below w.heap.size w w' := by
 have hu26 := Tryz.underlying40; have HB := af.mk (Below.refl w.heap.size w); have H : ((bC.f k (⟨#[103, 114, 111, 117, 112, 32, 106, 117, 109, 112, 32, 108, 105, 109, 105, 116, 32, 51, 59, 115, 101, 103, 109, 101, 110, 116, 32, 102, 114, 101, 101, 123, 99, 111, 117, 110, 116, 32, 55, 32, 59, 115, 99, 111, 114, 101, 32, 109, 105, 110, 40, 97, 44, 50, 46, 53, 48, 41, 42, 40, 32, 98, 32, 41, 59, 125]⟩ : ByteArray)).bind fun bt119 => (if (bt119.2.1 == 0 && (bt119.2.2 == 0)) = true then (some (bt119.1.toList == ([103, 114, 111, 117, 112, 32, 106, 117, 109, 112, 32, 108, 105, 109, 105, 116, 32, 51, 59, 10, 115, 101, 103, 109, 101, 110, 116, 32, 102, 114, 101, 101, 32, 123, 10, 32, 32, 99, 111, 117, 110, 116, 32, 55, 59, 10, 32, 32, 115, 99, 111, 114, 101, 32, 109, 105, 110, 32, 40, 97, 44, 32, 50, 46, 53, 41, 32, 42, 32, 40, 98, 41, 59, 10, 125, 10] : List UInt8))) else (none))) = some r := h; clear h; replace H := bn_ H; obtain ⟨⟨t119, t120, t121⟩, A1, H⟩ := H; (try dsimp only at H); replace H := gp_ H; obtain ⟨c2, H⟩ := H; have c2b0 : (t120 == 0 && (t121 == 0)) = true := c2; (try (have c2b1 : decide (t120 = 0 && (t121 == 0)) = true := by simpa using c2)); (try (have c2b2 : (t120 == 0 && (t121 == 0)) = true := by simpa using c2)); clear c2; obtain rfl := Option.some.inj H
 go_enter Tryz.func6, Tryz.ntmps6
 go_wp2_with (first | ((with_reducible refine aj (f := 20) rfl ?_); refine gk_ (some 4) Tryz.func20 (bC.calls k (⟨#[103, 114, 111, 117, 112, 32, 106, 117, 109, 112, 32, 108, 105, 109, 105, 116, 32, 51, 59, 115, 101, 103, 109, 101, 110, 116, 32, 102, 114, 101, 101, 123, 99, 111, 117, 110, 116, 32, 55, 32, 59, 115, 99, 111, 114, 101, 32, 109, 105, 110, 40, 97, 44, 50, 46, 53, 48, 41, 42, 40, 32, 98, 32, 41, 59, 125]⟩ : ByteArray) t119 t120 t121 _ ?side1 A1.1) ?_; (case side1 => exact Gl.below hG (bl_ HB.1)); rintro e w3 ⟨rfl, hb⟩; refine ⟨_, rfl, ?_⟩; refine gD (ah (bl_ HB.1) hb) ?_; clear hb HB; intro HB) | ((with_reducible refine aA (N := 2) rfl ?_); refine bx_ (N := 2) (cs := #[.int .i64 0, .int .i64 0]) (t := 40) ?_; intro gb122 hg w4 hbox hb; refine df (ah (bl_ HB.1) hb) (hbox) (bz_ (w := w) hg (bl_ HB.1)) (bz_ (w := w) hg (bl_ HB.1)) ?_; clear HB; intro HB BK122 GW122 GE122; clear hb hbox hg; obtain ⟨hcz5_0, hcz5_1, hfz5_0, hfz5_1⟩ := cq2_ BK122.1))
 go_ret
 exact ⟨er_, bl1_ HB.1 GE122.1⟩
end Go.Proofs.YtkifdadhojbohaaGreatDoor.Pr
namespace Go.Proofs.YtkifdadhojbohaaGreatDoor.Pu
open Go.RowKit Go.Proofs.YtkifdadhojbohaaGreatDoor Go.Proofs.YtkifdadhojbohaaGreatDoor.Pr Go.Proofs.YtkifdadhojbohaaGreatDoorW.PrintWords Go.Proofs.YtkifdadhojbohaaGreatDoorW.PrintLast Go.Proofs.YtkifdadhojbohaaGreatDoorW.PrintMore
theorem awake11_f : Ev (fun k => bZ.f k) true := Ev.of (fun k => bZ.mono k) (show bZ.f 90 = some true by kernel_rfl)
end Go.Proofs.YtkifdadhojbohaaGreatDoor.Pu
