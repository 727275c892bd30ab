/- Joined out of the texts of this proof that bear the names PrF31 PrF63 PrF36 PrF56 PrF26 PrF30: what each shows stands over it there. -/
import Derived.Test.YtkifdadhojbohaaDoorFk1
import Derived.Test.YtkifdadhojbohaaDoorFc1
import Derived.Test.YtkifdadhojbohaaDoorFb1
import Derived.Test.YtkifdadhojbohaaDoorFe1
set_option linter.unusedVariables false
set_option linter.unusedSimpArgs false
set_option maxHeartbeats 8000000
set_option maxRecDepth 100000
namespace Go.Proofs.YtkifdadhojbohaaDoor.Pr
open Go.Proofs.YtkifdadhojbohaaDoor
open Go.RowKit Go.Proofs.YtkifdadhojbohaaDoorW.PrintWords Go.Proofs.YtkifdadhojbohaaDoorW.PrintLast Go.Proofs.YtkifdadhojbohaaDoorW.PrintMore
attribute [local go_sem] max2_int min2_int max_two min_two max_three min_three max_four min_four   -- for this text's walks alone
set_option linter.unusedVariables false
set_option linter.unusedSimpArgs false
mutual
def parser_Depth.l0 : Nat → Int → List (S41) → Int → Int → Option (Int)
 | 0, _, _, _, _ => none
 | k + 1, x3, x6, x7, x8 => if x8 < x7 then (if 0 ≤ x8 then (if x8 < (x6.length : Int) then (if (rd_T41 x6 x8).f2 = true then ((parser_Depth.f k ((rd_T41 x6 x8).f3)).bind fun t181 => (parser_Depth.l0 k (mx x3 (wrap64 (1 + t181))) x6 x7 (wrap64 (x8 + 1)))) else (parser_Depth.l0 k x3 x6 x7 (wrap64 (x8 + 1)))) else (none)) else (none)) else (some x3)
def parser_Depth.f : Nat → List (S41) → Option (Int)
 | 0, _ => none
 | k + 1, l0 => parser_Depth.l0 k 0 l0 (l0.length : Int) 0
end
theorem parser_Depth.mono_l : ∀ k, (∀ y0, LeO (parser_Depth.f k y0) (parser_Depth.f (k + 1) y0)) ∧ (∀ y0 y1 y2 y3, LeO (parser_Depth.l0 k y0 y1 y2 y3) (parser_Depth.l0 (k + 1) y0 y1 y2 y3))
 | 0 => ⟨fun _ r h => by simp [parser_Depth.f] at h, fun _ _ _ _ r h => by simp [parser_Depth.l0] at h⟩
 | k + 1 => by
  obtain ⟨ih0, ih1⟩ := parser_Depth.mono_l k
  refine ⟨?_, ?_⟩
  ·
   intro y0
   unfold parser_Depth.f
   repeat' first
   | (with_reducible exact LeO.refl _)
   | exact ih0 _
   | exact ih1 _ _ _ _
   | exact LeO.none _
   | refine LeO.ite ?_ ?_
   | refine LeO.bind ?_ (fun _ => ?_)
  ·
   intro y0 y1 y2 y3
   unfold parser_Depth.l0
   repeat' first
   | (with_reducible exact LeO.refl _)
   | exact ih0 _
   | exact ih1 _ _ _ _
   | exact LeO.none _
   | refine LeO.ite ?_ ?_
   | refine LeO.bind ?_ (fun _ => ?_)
theorem parser_Depth.mono : ∀ a0 k, LeO (parser_Depth.f k a0) (parser_Depth.f (k + 1) a0) := by
 intro a0 k
 obtain ⟨ih0, ih1⟩ := parser_Depth.mono_l k
 exact ih0 a0
theorem parser_Depth.calls (k : Nat) : ∀ (A0 : Option Addr) (c0 : Nat) (l0 : List (S41)) (r : Int) (w : World) (hr0 : Kd.C k41 w A0 l0.length l0) (hc0 : l0.length ≤ c0) (h : parser_Depth.f k l0 = some r),
  Calls Tryd.prog 31 #[.slice A0 l0.length c0] w fun e w' => e = .returned (.int .i64 r) ∧ Below w.heap.size w w' := by
 induction k using Nat.strongRecOn with
 | _ k ih =>
 intro A0 c0 l0 r w hr0 hc0 h
 cases k with
 | zero => exact absurd h (by simp [parser_Depth.f])
 | succ k =>
 simp only [parser_Depth.f] at h; have hu41 := Tryd.underlying41; have HR0 := Aside0.mk hr0; have HC0 := Aside0.mk hc0; clear hr0 hc0; have HB := Aside0.mk (Below.refl w.heap.size w); have H : (parser_Depth.l0 k 0 l0 (l0.length : Int) 0) = some r := h; clear h; have H' := Aside0.mk H; clear H
 go_enter Tryd.func31, Tryd.ntmps31
 go_wp2
 go_loopg [3, 8] k (fun kq v3 v8 w' => ∃ (x3_1 : Int) (x8_1 : Int), v3 = .int .i64 x3_1 ∧ v8 = .int .i64 x8_1 ∧ Aside0 (parser_Depth.l0 kq x3_1 l0 (l0.length : Int) x8_1 = some r) ∧ Aside0 (kq ≤ k) ∧ Aside0 (Below w.heap.size w w'))
 case atStart => exact ⟨(0), (0), sr_, sr_, H', ⟨Nat.le_refl _⟩, ⟨bl_ HB.out⟩⟩
 case round =>
  clear H'; obtain ⟨x3_1, x8_1, rfl, rfl, HA, HK1, HB⟩ := hrel; obtain _ | k1 := gk
  · exact absurd HA.out (by simp [parser_Depth.l0])
  have H := HA.out; clear HA; simp only [parser_Depth.l0] at H; replace H := (sd_ H).symm; obtain ⟨c2b0, H⟩ | ⟨c2b0, H⟩ := H
  ·
   obtain rfl := Option.some.inj H
   go_wp2
   go_ret
   exact ⟨er_, bl_ HB.out⟩
  replace H := gd_ H; obtain ⟨c3b0, H⟩ := H; replace H := gd_ H; obtain ⟨c4b0, H⟩ := H; obtain ⟨bq5, hbq5⟩ : ∃ b_ : Bool, b_ = ((rd_T41 l0 x8_1).f2) := ⟨_, rfl⟩; replace H : (if bq5 = true then ((parser_Depth.f k1 ((rd_T41 l0 x8_1).f3)).bind fun t181 => (parser_Depth.l0 k1 (mx x3_1 (wrap64 (1 + t181))) l0 (l0.length : Int) (wrap64 (x8_1 + 1)))) else (parser_Depth.l0 k1 x3_1 l0 (l0.length : Int) (wrap64 (x8_1 + 1)))) = some r := by rw [← hbq5] at H; exact H
  have Nbq5 := Aside0.mk hbq5; clear hbq5; replace H := (sb_ H).symm; obtain ⟨rfl, H⟩ | ⟨rfl, H⟩ := H
  ·
   have H' := Aside0.mk H; clear H; have p179 : 0 ≤ (x8_1 : Int) := dt_; have q179 : x8_1 < (l0.length : Int) := dt_; obtain ⟨ad179, A179_1, c179_1, A179_3, c179_3, e179, hx179_0, hx179_1, hx179_2, hx179_3, hx179_4, hl179_1, hi179_1, hl179_3, hi179_3⟩ := at_T41 HR0.out x8_1 p179 q179; (try rw [← Nbq5.out] at hx179_2); cases e179; replace hx179_0 := pw_cell_below HB.out hx179_0; replace hx179_1 := pw_cell_below HB.out hx179_1; replace hx179_2 := pw_cell_below HB.out hx179_2; replace hx179_3 := pw_cell_below HB.out hx179_3; replace hx179_4 := pw_cell_below HB.out hx179_4; have HR179_1 := Aside0.mk hi179_1; have HC179_1 := Aside0.mk hl179_1; clear hi179_1 hl179_1; have HR179_3 := Aside0.mk hi179_3; have HC179_3 := Aside0.mk hl179_3; clear hi179_3 hl179_3; replace p179 := eq_true p179; replace q179 := eq_true q179
   go_wp2_with (first | ((with_reducible refine gate_dst (N := 5) rfl ?_); refine bx_ (N := 5) (cs := #[.string (⟨#[]⟩ : ByteArray), .slice none 0 0, .bool false, .slice none 0 0, .int .i64 0]) (t := 41) ?_; intro gb180 hg w12 hbox hb; refine cut4_ (below_step (bl_ HB.out) hb) (hbox) (bz_ (w := w) hg (bl_ HB.out)) (bz_ (w := w) hg (bl_ HB.out)) ?_; clear HB; intro HB BK180 GW180 GE180; clear hb hbox hg; obtain ⟨hcz13_0, hcz13_1, hcz13_2, hcz13_3, hcz13_4, hfz13_0, hfz13_1, hfz13_2, hfz13_3, hfz13_4⟩ := cq5_ BK180.out))
   go_roundg k1
   case measure => have := HK1.out; omega
   case rel => exact ⟨(x3_1), (wrap64 (x8_1 + 1)), sr_, sr_, H', ⟨om_ HK1.out⟩, ⟨bl1_ HB.out GE180.out⟩⟩
  replace H := bn_ H; obtain ⟨t181, A7, H⟩ := H; (try dsimp only at H); obtain ⟨ji8, hji8⟩ : ∃ j_ : Int, (mx x3_1 (wrap64 (1 + t181))) = j_ := ⟨_, rfl⟩; replace H : (parser_Depth.l0 k1 ji8 l0 (l0.length : Int) (wrap64 (x8_1 + 1))) = some r := by first | (rw [hji8] at H; exact H) | (simp only [hji8] at H ⊢; exact H)
  (try rw [hji8] at A7); have hji8_ : (if x3_1 < (wrap64 (1 + t181)) then (wrap64 (1 + t181)) else x3_1) = ji8 := hji8; have H' := Aside0.mk H; clear H; have p179 : 0 ≤ (x8_1 : Int) := dt_; have q179 : x8_1 < (l0.length : Int) := dt_; obtain ⟨ad179, A179_1, c179_1, A179_3, c179_3, e179, hx179_0, hx179_1, hx179_2, hx179_3, hx179_4, hl179_1, hi179_1, hl179_3, hi179_3⟩ := at_T41 HR0.out x8_1 p179 q179; (try rw [← Nbq5.out] at hx179_2); cases e179; replace hx179_0 := pw_cell_below HB.out hx179_0; replace hx179_1 := pw_cell_below HB.out hx179_1; replace hx179_2 := pw_cell_below HB.out hx179_2; replace hx179_3 := pw_cell_below HB.out hx179_3; replace hx179_4 := pw_cell_below HB.out hx179_4; have HR179_1 := Aside0.mk hi179_1; have HC179_1 := Aside0.mk hl179_1; clear hi179_1 hl179_1; have HR179_3 := Aside0.mk hi179_3; have HC179_3 := Aside0.mk hl179_3; clear hi179_3 hl179_3; replace p179 := eq_true p179; replace q179 := eq_true q179
  go_wp2_with (first | ((with_reducible refine gate_dst (N := 5) rfl ?_); refine bx_ (N := 5) (cs := #[.string (⟨#[]⟩ : ByteArray), .slice none 0 0, .bool false, .slice none 0 0, .int .i64 0]) (t := 41) ?_; intro gb180 hg w9 hbox hb; refine cut4_ (below_step (bl_ HB.out) hb) (hbox) (bz_ (w := w) hg (bl_ HB.out)) (bz_ (w := w) hg (bl_ HB.out)) ?_; clear HB; intro HB BK180 GW180 GE180; clear hb hbox hg; obtain ⟨hcz10_0, hcz10_1, hcz10_2, hcz10_3, hcz10_4, hfz10_0, hfz10_1, hfz10_2, hfz10_3, hfz10_4⟩ := cq5_ BK180.out) | ((with_reducible refine gate_callee (f := 31) rfl ?_); refine gk_ (some 17) Tryd.func31 (ih k1 (by have := HK1.out; omega) _ _ ((rd_T41 l0 x8_1).f3) t181 _ ?side1 ?side2 A7.out) ?_; (case side1 => exact Kd.C_below HR179_3.out (bl1_ HB.out GE180.out)); (case side2 => exact HC179_3.out); rintro e w11 ⟨rfl, hb⟩; refine ⟨_, rfl, ?_⟩; refine cut2_ (blk_below (g := gb180) (o := .cells #[.string ((rd_T41 l0 x8_1).f0), .slice A179_1 ((rd_T41 l0 x8_1).f1).length c179_1, .bool true, .slice A179_3 ((rd_T41 l0 x8_1).f3).length c179_3, .int .i64 ((rd_T41 l0 x8_1).f4)] 41 (0, 0)) (put5_ (bk_ BK180.out)) hb) (below_step (bl1_ HB.out GE180.out) hb) ?_; clear hb BK180 HB; intro BK180 HB))
  go_roundg k1
  case measure => have := HK1.out; omega
  case rel => exact ⟨(ji8), (wrap64 (x8_1 + 1)), (by first | rfl | (simp; done) | (simp only [← hji8] <;> (first | rfl | simp)) | (simp [*]; done)), sr_, H', ⟨om_ HK1.out⟩, ⟨bl1_ HB.out GE180.out⟩⟩
def lexer_isWord.l0 : Nat → ByteArray → Int → Int → Option (Bool)
 | 0, _, _, _ => none
 | k + 1, x0, x5, x6 => if x6 < x5 then (if 0 ≤ x6 then (if x6 < (x0.size : Int) then ((lexer_isRun.f (bt x0 x6)).bind fun t182 => (if t182 = true then (lexer_isWord.l0 k x0 x5 (wrap64 (x6 + 1))) else (some false))) else (none)) else (none)) else ((lexer_word.f k x0).bind fun t183 => (some (t183 == 0)))
def lexer_isWord.f (k : Nat) (a0 : ByteArray) : Option (Bool) := lexer_isWord.l0 k a0 (a0.size : Int) 0
theorem lexer_isWord.mono_l : ∀ k, (∀ y0 y1 y2, LeO (lexer_isWord.l0 k y0 y1 y2) (lexer_isWord.l0 (k + 1) y0 y1 y2))
 | 0 => fun _ _ _ r h => by simp [lexer_isWord.l0] at h
 | k + 1 => by
  have ih0 := lexer_isWord.mono_l k
  ·
   intro y0 y1 y2
   unfold lexer_isWord.l0
   repeat' first
   | (with_reducible exact LeO.refl _)
   | exact ih0 _ _ _
   | exact lexer_word.mono _ _
   | exact LeO.none _
   | refine LeO.ite ?_ ?_
   | refine LeO.bind ?_ (fun _ => ?_)
theorem lexer_isWord.mono : ∀ a0 k, LeO (lexer_isWord.f k a0) (lexer_isWord.f (k + 1) a0) := by
 intro a0 k
 have ih0 := lexer_isWord.mono_l k
 unfold lexer_isWord.f
 repeat' first
   | (with_reducible exact LeO.refl _)
   | exact ih0 _ _ _
   | exact lexer_word.mono _ _
   | exact LeO.none _
   | refine LeO.ite ?_ ?_
   | refine LeO.bind ?_ (fun _ => ?_)
theorem lexer_isWord.calls (k : Nat) (a0 : ByteArray) (r : Bool) (w : World) (h : lexer_isWord.f k a0 = some r) :
  Calls Tryd.prog 63 #[.string a0] w fun e w' => e = .returned (.bool r) ∧ Below w.heap.size w w' := by
 have HB := Aside0.mk (Below.refl w.heap.size w); have H : (lexer_isWord.l0 k a0 (a0.size : Int) 0) = some r := h; clear h; have H' := Aside0.mk H; clear H
 go_enter Tryd.func63, Tryd.ntmps63
 go_wp2
 go_loopg [6] k (fun kq v6 w' => ∃ (x6_1 : Int), v6 = .int .i64 x6_1 ∧ Aside0 (lexer_isWord.l0 kq a0 (a0.size : Int) x6_1 = some r) ∧ Aside0 (kq ≤ k) ∧ Aside0 (Below w.heap.size w w'))
 case atStart => exact ⟨(0), sr_, H', ⟨Nat.le_refl _⟩, ⟨bl_ HB.out⟩⟩
 case round =>
  clear H'; obtain ⟨x6_1, rfl, HA, HK1, HB⟩ := hrel; obtain _ | k1 := gk
  · exact absurd HA.out (by simp [lexer_isWord.l0])
  have H := HA.out; clear HA; simp only [lexer_isWord.l0] at H; replace H := (sd_ H).symm; obtain ⟨c2b0, H⟩ | ⟨c2b0, H⟩ := H
  ·
   replace H := bn_ H; obtain ⟨t183, A10, H⟩ := H; (try dsimp only at H); obtain rfl := Option.some.inj H
   go_wp2_with (first | ((with_reducible refine gate_callee (f := 91) rfl ?_); refine gk_ (some 16) Tryd.func91 (lexer_word.calls k1 a0 t183 _ A10.out) ?_; rintro e w11 ⟨rfl, hb⟩; refine ⟨_, rfl, ?_⟩; refine cut1_ (below_step (bl_ HB.out) hb) ?_; clear hb HB; intro HB))
   go_ret
   exact ⟨er_, bl_ HB.out⟩
  replace H := gd_ H; obtain ⟨c3b0, H⟩ := H; replace H := gd_ H; obtain ⟨c4b0, H⟩ := H; replace H := bn_ H; obtain ⟨t182, A6, H⟩ := H; (try dsimp only at H); replace H := (sb_ H).symm; obtain ⟨rfl, H⟩ | ⟨rfl, H⟩ := H
  ·
   obtain rfl := Option.some.inj H; have p5 : (0 ≤ (x6_1 : Int)) = True := dT_; have q5 : (x6_1 < (a0.size : Int)) = True := dT_; have hx5 := bt_at a0 x6_1
   go_wp2_with (first | ((with_reducible refine gate_callee (f := 82) rfl ?_); refine gk_ (some 12) Tryd.func82 (lexer_isRun.calls (bt a0 x6_1) false _ A6.out) ?_; rintro e w9 ⟨rfl, hb⟩; refine ⟨_, rfl, ?_⟩; refine cut1_ (below_step (bl_ HB.out) hb) ?_; clear hb HB; intro HB))
   go_ret
   exact ⟨er_, bl_ HB.out⟩
  have H' := Aside0.mk H; clear H; have p5 : (0 ≤ (x6_1 : Int)) = True := dT_; have q5 : (x6_1 < (a0.size : Int)) = True := dT_; have hx5 := bt_at a0 x6_1
  go_wp2_with (first | ((with_reducible refine gate_callee (f := 82) rfl ?_); refine gk_ (some 12) Tryd.func82 (lexer_isRun.calls (bt a0 x6_1) true _ A6.out) ?_; rintro e w8 ⟨rfl, hb⟩; refine ⟨_, rfl, ?_⟩; refine cut1_ (below_step (bl_ HB.out) hb) ?_; clear hb HB; intro HB))
  go_roundg k1
  case measure => have := HK1.out; omega
  case rel => exact ⟨(wrap64 (x6_1 + 1)), sr_, H', ⟨om_ HK1.out⟩, ⟨bl_ HB.out⟩⟩
def lexer_Valid.j0 : Nat → Bool → Int → ByteArray → Int → Int → Option (Bool)
 | 0, _, _, _, _, _ => none
 | k + 1, x10, x185000, x185001, x185002, x185003 => if x10 = true then (some false) else (if x185000 = 1 then (if x185001.toList = ([] : List UInt8) then (some false) else ((lexer_isWord.f k x185001).bind fun t185 => (some t185))) else (if x185000 = 2 then (if x185001.toList = ([] : List UInt8) then (if 0 ≤ x185002 then (some (decide (x185002 ≤ 1000000000))) else (some false)) else (some false)) else (if x185000 = 3 then ((lexer_title.f k x185001).bind fun t186 => (some (t186 == 0))) else (if x185000 = 4 then (if (x185001.size : Int) = 1 then ((lexer_kinds.f).bind fun t187 => (if 0 < (x185001.size : Int) then (if 0 ≤ (bt x185001 0) then (if (bt x185001 0) < 256 then (some ((lexer_kinds.at_ (bt x185001 0)) == 5)) else (none)) else (none)) else (none))) else (some false)) else (if x185000 = 5 then (some (x185001.toList == ([] : List UInt8))) else (some false))))))
def lexer_Valid.f (k : Nat) (a0_0 : Int) (a0_1 : ByteArray) (a0_2 : Int) (a0_3 : Int) : Option (Bool) := if a0_0 = 2 then (lexer_Valid.j0 k false a0_0 a0_1 a0_2 a0_3) else (lexer_Valid.j0 k (a0_2 != 0) a0_0 a0_1 a0_2 a0_3)
theorem lexer_Valid.mono_l : ∀ k, (∀ y0 y1 y2 y3 y4, LeO (lexer_Valid.j0 k y0 y1 y2 y3 y4) (lexer_Valid.j0 (k + 1) y0 y1 y2 y3 y4))
 | 0 => fun _ _ _ _ _ r h => by simp [lexer_Valid.j0] at h
 | k + 1 => by
  have ih0 := lexer_Valid.mono_l k
  ·
   intro y0 y1 y2 y3 y4
   unfold lexer_Valid.j0
   repeat' first
   | (with_reducible exact LeO.refl _)
   | exact ih0 _ _ _ _ _
   | exact lexer_isWord.mono _ _
   | exact lexer_title.mono _ _
   | exact LeO.none _
   | refine LeO.ite ?_ ?_
   | refine LeO.bind ?_ (fun _ => ?_)
theorem lexer_Valid.mono : ∀ a0 a1 a2 a3 k, LeO (lexer_Valid.f k a0 a1 a2 a3) (lexer_Valid.f (k + 1) a0 a1 a2 a3) := by
 intro a0 a1 a2 a3 k
 have ih0 := lexer_Valid.mono_l k
 unfold lexer_Valid.f
 repeat' first
   | (with_reducible exact LeO.refl _)
   | exact ih0 _ _ _ _ _
   | exact lexer_isWord.mono _ _
   | exact lexer_title.mono _ _
   | exact LeO.none _
   | refine LeO.ite ?_ ?_
   | refine LeO.bind ?_ (fun _ => ?_)
def lexer_Valid.T11 : Bool × List (List Nat × List Nat) := (true, [([], []), ([0], [0]), ([1], [1]), ([2], [2]), ([3], [3]), ([4, 4], [4]), ([4], [4]), ([6, 4], [4, 6]), ([7, 4], [4, 7]), ([5, 8, 4], [4, 5, 8]), ([9, 4], [4, 9]), ([4, 10], [4, 10]), ([11, 5, 0, 1, 2, 3, 4, 5, 6, 7, 8, 9, 10, 11], [11])])
def lexer_Valid.B11 : List Nat := [0, 1, 3, 7, 15, 31, 31, 95, 223, 511, 1023, 2047, 4095]
theorem lexer_Valid.tab11 : rtab .any (opsOf Tryd.f36 11) = lexer_Valid.T11 := by kernel_rfl
theorem lexer_Valid.bits11 : waitsOk lexer_Valid.T11.2 lexer_Valid.B11 = true := by kernel_rfl
theorem lexer_Valid.calls (k : Nat) (a0_0 : Int) (a0_1 : ByteArray) (a0_2 : Int) (a0_3 : Int) (r : Bool) (w : World) (h : lexer_Valid.f k a0_0 a0_1 a0_2 a0_3 = some r) :
  Calls Tryd.prog 36 #[.agg #[.int .i64 a0_0, .string a0_1, .int .i64 a0_2, .int .i64 a0_3]] w fun e w' => e = .returned (.bool r) ∧ Below w.heap.size w w' := by
 have hu46 := Tryd.underlying46; have HB := Aside0.mk (Below.refl w.heap.size w); have H : (if a0_0 = 2 then (lexer_Valid.j0 k false a0_0 a0_1 a0_2 a0_3) else (lexer_Valid.j0 k (a0_2 != 0) a0_0 a0_1 a0_2 a0_3)) = some r := h; clear h; have HC2 := Aside0.mk H; clear H
 go_enter Tryd.func36, Tryd.ntmps36
 go_upto_region 1 with (first | ((with_reducible refine gate_dst (N := 1) rfl ?_); refine bx_ (N := 1) (cs := #[.int .i64 a0_0, .string a0_1, .int .i64 a0_2, .int .i64 a0_3]) (t := 46) ?_; intro gb184 hg w3 hbox hb; have n0_ := Aside0.mk (below_step (bl_ HB.out) hb); have n1_ := Aside0.mk (hbox); have n2_ := Aside0.mk (bz_ (w := w) hg (bl_ HB.out)); have n3_ := Aside0.mk (bz_ (w := w) hg (bl_ HB.out)); clear HB; have HB := n0_; have BK184 := n1_; have GW184 := n2_; have GE184 := n3_; clear n0_ n1_ n2_ n3_; clear hb hbox hg))
 (try simp only [Act.put, List.setIfInBounds_toArray, List.set_cons_zero, List.set_cons_succ])
 go_cut [10] (fun v10 wc => ∃ (kq : Nat) (x10_1 : Bool), v10 = .bool x10_1 ∧ Aside0 (lexer_Valid.j0 kq x10_1 a0_0 a0_1 a0_2 a0_3 = some r) ∧ Aside0 (kq ≤ k) ∧ Aside0 (wc.heap[gb184]? = some (.cells #[.int .i64 a0_0, .string a0_1, .int .i64 a0_2, .int .i64 a0_3] 46 (0, 0))) ∧ Aside0 (Below w.heap.size w wc))
 case first =>
  have H := HC2.out; clear HC2; replace H := (sp_ H).symm; obtain ⟨c4, H⟩ | ⟨c4, H⟩ := H
  ·
   have c4b0 := beq_eq_false_iff_ne.mpr c4; have c4b1 := bne_iff_ne.mpr c4
   (first | rw [c4b0] | (simp only [i64_w, i32_w]; rw [c4b0]) | skip)
   have H' := Aside0.mk H; clear H; obtain ⟨hcz6_0, hcz6_1, hcz6_2, hcz6_3, hfz6_0, hfz6_1, hfz6_2, hfz6_3⟩ := cq4_ BK184.out
   go_wp2
   go_meet
   case rel => exact ⟨_, ((a0_2 != 0)), sr_, H', ⟨by first | omega | exact Nat.le_refl _⟩, ⟨bk_ BK184.out⟩, ⟨bl1_ HB.out GE184.out⟩⟩
  have c4b0 := beq_iff_eq.mpr c4; have c4b1 := bne_eq_false_iff_eq.mpr c4; clear c4
  (first | rw [c4b0] | (simp only [i64_w, i32_w]; rw [c4b0]) | skip)
  have H' := Aside0.mk H; clear H; obtain ⟨hcz5_0, hcz5_1, hcz5_2, hcz5_3, hfz5_0, hfz5_1, hfz5_2, hfz5_3⟩ := cq4_ BK184.out
  go_wp2
  go_meet
  case rel => exact ⟨_, (false), sr_, H', ⟨by first | omega | exact Nat.le_refl _⟩, ⟨bk_ BK184.out⟩, ⟨bl1_ HB.out GE184.out⟩⟩
 case rest =>
  clear HC2; obtain ⟨kq, x10_1, rfl, HA, HJ1, BK184, HB⟩ := hcut
  cases kq with
  | zero => exact absurd HA.out (by simp [lexer_Valid.j0])
  | succ kj1 =>
   have H := HA.out; clear HA; simp only [lexer_Valid.j0] at H; replace H := sb_ H; obtain ⟨rfl, H⟩ | ⟨rfl, H⟩ := H
   ·
    obtain rfl := Option.some.inj H
    go_wp2
    go_ret
    exact ⟨er_, bl1_ HB.out GE184.out⟩
   replace H := sp_ H; obtain ⟨c8, H⟩ | ⟨c8, H⟩ := H
   ·
    have c8b0 := beq_iff_eq.mpr c8; have c8b1 := bne_eq_false_iff_eq.mpr c8; clear c8; replace H := sp_ H; obtain ⟨c9, H⟩ | ⟨c9, H⟩ := H
    ·
     have c9b0 := beq_iff_eq.mpr c9; have c9b1 := bne_eq_false_iff_eq.mpr c9; clear c9; obtain rfl := Option.some.inj H; obtain ⟨hcz10_0, hcz10_1, hcz10_2, hcz10_3, hfz10_0, hfz10_1, hfz10_2, hfz10_3⟩ := cq4_ BK184.out
     go_wp2
     go_ret
     exact ⟨er_, bl1_ HB.out GE184.out⟩
    have c9b0 := beq_eq_false_iff_ne.mpr c9; have c9b1 := bne_iff_ne.mpr c9; replace H := bn_ H; obtain ⟨t185, A11, H⟩ := H; (try dsimp only at H); obtain rfl := Option.some.inj H; obtain ⟨hcz12_0, hcz12_1, hcz12_2, hcz12_3, hfz12_0, hfz12_1, hfz12_2, hfz12_3⟩ := cq4_ BK184.out
    go_wp2_with (first | (go_at_call 63; (with_reducible refine (lexer_isWord.calls kj1 a0_1 t185 _ A11.out).mono ?_); rintro e w13 ⟨rfl, hb⟩; refine cut2_ (bb_ BK184.out hb) (below_step (bl1_ HB.out GE184.out) hb) ?_; clear BK184 HB; intro BK184 HB; (try clear hb); (try clear hb2); (try clear hk); (try clear hi)))
    go_ret
    exact ⟨er_, bl1_ HB.out GE184.out⟩
   have c8b0 := beq_eq_false_iff_ne.mpr c8; have c8b1 := bne_iff_ne.mpr c8; replace H := sp_ H; obtain ⟨c14, H⟩ | ⟨c14, H⟩ := H
   ·
    have c14b0 := beq_iff_eq.mpr c14; have c14b1 := bne_eq_false_iff_eq.mpr c14; clear c14; replace H := (sp_ H).symm; obtain ⟨c15, H⟩ | ⟨c15, H⟩ := H
    ·
     have c15b0 := beq_eq_false_iff_ne.mpr c15; have c15b1 := bne_iff_ne.mpr c15; obtain rfl := Option.some.inj H; obtain ⟨hcz19_0, hcz19_1, hcz19_2, hcz19_3, hfz19_0, hfz19_1, hfz19_2, hfz19_3⟩ := cq4_ BK184.out
     go_wp2
     go_ret
     exact ⟨er_, bl1_ HB.out GE184.out⟩
    have c15b0 := beq_iff_eq.mpr c15; have c15b1 := bne_eq_false_iff_eq.mpr c15; clear c15; replace H := sd_ H; obtain ⟨c16b0, H⟩ | ⟨c16b0, H⟩ := H
    ·
     obtain rfl := Option.some.inj H; obtain ⟨hcz17_0, hcz17_1, hcz17_2, hcz17_3, hfz17_0, hfz17_1, hfz17_2, hfz17_3⟩ := cq4_ BK184.out
     go_wp2
     go_ret
     exact ⟨er_, bl1_ HB.out GE184.out⟩
    obtain rfl := Option.some.inj H; obtain ⟨hcz18_0, hcz18_1, hcz18_2, hcz18_3, hfz18_0, hfz18_1, hfz18_2, hfz18_3⟩ := cq4_ BK184.out
    go_wp2
    go_ret
    exact ⟨er_, bl1_ HB.out GE184.out⟩
   have c14b0 := beq_eq_false_iff_ne.mpr c14; have c14b1 := bne_iff_ne.mpr c14; replace H := sp_ H; obtain ⟨c20, H⟩ | ⟨c20, H⟩ := H
   ·
    have c20b0 := beq_iff_eq.mpr c20; have c20b1 := bne_eq_false_iff_eq.mpr c20; clear c20; replace H := bn_ H; obtain ⟨t186, A21, H⟩ := H; (try dsimp only at H); obtain rfl := Option.some.inj H; obtain ⟨hcz22_0, hcz22_1, hcz22_2, hcz22_3, hfz22_0, hfz22_1, hfz22_2, hfz22_3⟩ := cq4_ BK184.out
    go_wp2_with (first | ((with_reducible refine gate_callee (f := 64) rfl ?_); refine gk_ (some 42) Tryd.func64 (lexer_title.calls kj1 a0_1 t186 _ A21.out) ?_; rintro e w' ⟨rfl, ⟨nd, rfl⟩⟩; refine ⟨_, rfl, ?_⟩))
    go_ret
    exact ⟨er_, bl1_ HB.out GE184.out⟩
   have c20b0 := beq_eq_false_iff_ne.mpr c20; have c20b1 := bne_iff_ne.mpr c20; replace H := (sp_ H).symm; obtain ⟨c23, H⟩ | ⟨c23, H⟩ := H
   ·
    have c23b0 := beq_eq_false_iff_ne.mpr c23; have c23b1 := bne_iff_ne.mpr c23; replace H := (sp_ H).symm; obtain ⟨c36, H⟩ | ⟨c36, H⟩ := H
    ·
     have c36b0 := beq_eq_false_iff_ne.mpr c36; have c36b1 := bne_iff_ne.mpr c36; obtain rfl := Option.some.inj H; obtain ⟨hcz38_0, hcz38_1, hcz38_2, hcz38_3, hfz38_0, hfz38_1, hfz38_2, hfz38_3⟩ := cq4_ BK184.out
     go_wp2
     go_ret
     exact ⟨er_, bl1_ HB.out GE184.out⟩
    have c36b0 := beq_iff_eq.mpr c36; have c36b1 := bne_eq_false_iff_eq.mpr c36; clear c36; obtain rfl := Option.some.inj H; obtain ⟨hcz37_0, hcz37_1, hcz37_2, hcz37_3, hfz37_0, hfz37_1, hfz37_2, hfz37_3⟩ := cq4_ BK184.out
    go_wp2
    go_ret
    exact ⟨er_, bl1_ HB.out GE184.out⟩
   have c23b0 := beq_iff_eq.mpr c23; have c23b1 := bne_eq_false_iff_eq.mpr c23; clear c23; replace H := (sp_ H).symm; obtain ⟨c24, H⟩ | ⟨c24, H⟩ := H
   ·
    have c24b0 := beq_eq_false_iff_ne.mpr c24; have c24b1 := bne_iff_ne.mpr c24; obtain rfl := Option.some.inj H; obtain ⟨hcz34_0, hcz34_1, hcz34_2, hcz34_3, hfz34_0, hfz34_1, hfz34_2, hfz34_3⟩ := cq4_ BK184.out
    try go_wp2
    refine cut2_ (blk_drew BK184.out) (below_drew1 HB.out) ?_; clear BK184 HB; intro BK184 HB; refine start_ (n := 13) (S := fun w' => w'.cell? ⟨gb184, 0, none⟩ = some (.int .i64 a0_0) ∧ w'.cell? ⟨gb184, 1, none⟩ = some (.string a0_1) ∧ w'.cell? ⟨gb184, 2, none⟩ = some (.int .i64 a0_2) ∧ w'.cell? ⟨gb184, 3, none⟩ = some (.int .i64 a0_3)) (ds := []) (bm_ 13 0) (by kernel_rfl) rfl (by kernel_rfl) ⟨ce_ BK184.out 0, ce_ BK184.out 1, ce_ BK184.out 2, ce_ BK184.out 3⟩ (fun hHeld => ?_); refine with_tabW lexer_Valid.tab11 lexer_Valid.bits11 (fun HT_ HW_ => ?_); generalize wc.drew = w35 at BK184 HB hHeld ⊢; refine pt_ HT_.out (i := 0) (N := some 46) (bm_ 13 1) ?_; refine tw_ HT_.out HW_.out hHeld (i := 1) (N := some 47) (bm_ 13 3) ?_; refine pt_ HT_.out (i := 2) (N := some 48) (bm_ 13 7) ?_; refine pt_ HT_.out (i := 3) (N := some 49) (bm_ 13 15) ?_; refine pt_ HT_.out (i := 4) (N := some 50) (bm_ 13 31) ?_; refine pure_ (i := 5) (N := some 51) (v := undef) (a' := ?_) (bm_ 13 63) rfl rfl (any_of HT_.out (by kernel_rfl)) (fun _ _ _ h => h) (Or.inr ⟨by rfl, rfl⟩) ?_ ?_; rotate_left
    ·
     simp only [Act.put, List.setIfInBounds_toArray, List.set_cons_zero, List.set_cons_succ, i64_w, i32_w]
     rfl
    refine pure_ (i := 6) (N := some 52) (v := undef) (a' := ?_) (bm_ 13 127) rfl rfl (any_of HT_.out (by kernel_rfl)) (fun _ _ _ h => h) (Or.inr ⟨by rfl, rfl⟩) ?_ ?_; rotate_left
    ·
     simp only [Act.put, List.setIfInBounds_toArray, List.set_cons_zero, List.set_cons_succ, i64_w, i32_w]
     rfl
    refine pure_ (i := 7) (N := some 53) (v := undef) (a' := ?_) (bm_ 13 255) rfl rfl (any_of HT_.out (by kernel_rfl)) (fun _ _ _ h => h) (Or.inr ⟨by rfl, rfl⟩) ?_ ?_; rotate_left
    ·
     simp only [Act.put, List.setIfInBounds_toArray, List.set_cons_zero, List.set_cons_succ, i64_w, i32_w]
     rfl
    refine pure_ (i := 8) (N := some 54) (v := undef) (a' := ?_) (bm_ 13 511) rfl rfl (any_of HT_.out (by kernel_rfl)) (fun _ _ _ h => h) (Or.inr ⟨by rfl, rfl⟩) ?_ ?_; rotate_left
    ·
     simp only [Act.put, List.setIfInBounds_toArray, List.set_cons_zero, List.set_cons_succ, i64_w, i32_w]
     rfl
    refine pure_ (i := 9) (N := some 55) (v := undef) (a' := ?_) (bm_ 13 1023) rfl rfl (any_of HT_.out (by kernel_rfl)) (fun _ _ _ h => h) (Or.inr ⟨by rfl, rfl⟩) ?_ ?_; rotate_left
    ·
     simp only [Act.put, List.setIfInBounds_toArray, List.set_cons_zero, List.set_cons_succ, i64_w, i32_w]
     rfl
    refine pure_ (i := 10) (N := some 56) (v := undef) (a' := ?_) (bm_ 13 2047) rfl rfl (any_of HT_.out (by kernel_rfl)) (fun _ _ _ h => h) (Or.inr ⟨by rfl, rfl⟩) ?_ ?_; rotate_left
    ·
     simp only [Act.put, List.setIfInBounds_toArray, List.set_cons_zero, List.set_cons_succ, i64_w, i32_w]
     rfl
    refine pt_ HT_.out (i := 11) (N := some 57) (bm_ 13 4095) ?_; refine pt_ HT_.out (i := 12) (N := some 2) (bm_ 13 8191) ?_; refine done_ (done_of HT_.out (by kernel_rfl)) ?_
    try go_wp2
    go_ret
    exact ⟨er_, bl1_ HB.out GE184.out⟩
   have c24b0 := beq_iff_eq.mpr c24; have c24b1 := bne_eq_false_iff_eq.mpr c24; clear c24; replace H := bn_ H; obtain ⟨t187, A25, H⟩ := H; (try dsimp only at H); replace H := gp_ H; obtain ⟨c26, H⟩ := H; have c26b0 := decide_eq_true c26; have c26b1 : decide (0 < a0_1.size) = true := decide_eq_true (by omega); clear c26; replace H := gd_ H; obtain ⟨c28b0, H⟩ := H; replace H := gd_ H; obtain ⟨c29b0, H⟩ := H; obtain rfl := Option.some.inj H; obtain ⟨hcz31_0, hcz31_1, hcz31_2, hcz31_3, hfz31_0, hfz31_1, hfz31_2, hfz31_3⟩ := cq4_ BK184.out
   try go_wp2
   refine cut2_ (blk_drew BK184.out) (below_drew1 HB.out) ?_; clear BK184 HB; intro BK184 HB; have p27 : 0 ≤ (0 : Int) := (by omega); have q27 : 0 < a0_1.size := (by have : (0 : Int) < (a0_1.size : Int) := dt_; omega); have hx27 : ∀ h : 0 < a0_1.size, ((a0_1[0]'h).toNat : Int) = bt a0_1 0 := bt_at a0_1 0; clear p27; have qi27 : (0 < (a0_1.size : Int)) = True := eq_true (dt_); replace q27 := eq_true q27; refine start_ (n := 13) (S := fun w' => w'.cell? ⟨gb184, 0, none⟩ = some (.int .i64 a0_0) ∧ w'.cell? ⟨gb184, 1, none⟩ = some (.string a0_1) ∧ w'.cell? ⟨gb184, 2, none⟩ = some (.int .i64 a0_2) ∧ w'.cell? ⟨gb184, 3, none⟩ = some (.int .i64 a0_3)) (ds := []) (bm_ 13 0) (by kernel_rfl) rfl (by kernel_rfl) ⟨ce_ BK184.out 0, ce_ BK184.out 1, ce_ BK184.out 2, ce_ BK184.out 3⟩ (fun hHeld => ?_); refine with_tabW lexer_Valid.tab11 lexer_Valid.bits11 (fun HT_ HW_ => ?_); generalize wc.drew = w32 at BK184 HB hHeld ⊢; refine pt_ HT_.out (i := 0) (N := some 46) (bm_ 13 1) ?_; refine tw_ HT_.out HW_.out hHeld (i := 1) (N := some 47) (bm_ 13 3) ?_; refine pt_ HT_.out (i := 2) (N := some 48) (bm_ 13 7) ?_; refine pt_ HT_.out (i := 3) (N := some 49) (bm_ 13 15) ?_; refine pt_ HT_.out (i := 4) (N := some 50) (bm_ 13 31) ?_; refine pt_ HT_.out (i := 6) (N := some 52) (bm_ 13 95) ?_; refine tw_ HT_.out HW_.out hHeld (i := 7) (N := some 53) (bm_ 13 223) ?_; refine tw_ HT_.out HW_.out hHeld (i := 8) (N := some 54) (bm_ 13 479) ?_; refine on_ HT_.out (i := 5) (N := some 51) (bm_ 13 511) (fun K hK => ?_); refine goes_ Tryd.func65 (by kernel_rfl) rfl #[] (by rfl) rfl rfl ga_ ?_
   with_reducible refine (lexer_kinds.calls  t187 _ A25.out).mono ?_
   rintro e w33 ⟨rfl, hb⟩; refine ⟨_, rfl, ?_⟩; refine cut2_ (bb_ BK184.out hb) (below_step (bl1_ HB.out GE184.out) hb) ?_; clear BK184 HB; intro BK184 HB; (try clear hb); have p30 : 0 ≤ ((bt a0_1 0) : Int) := dt_; have q30 : ((bt a0_1 0) : Int) < 256 := dt_; have hx30 := lexer_kinds.at_run A25.out (bt a0_1 0) p30 q30; replace p30 := eq_true p30; replace q30 := eq_true q30; refine hK.out _ _ ⟨ce_ BK184.out 0, ce_ BK184.out 1, ce_ BK184.out 2, ce_ BK184.out 3⟩ (fun hHeld => ?_); clear hK K; refine nm_ ?_; refine tw_ HT_.out HW_.out hHeld (i := 9) (N := some 55) (bm_ 13 1023) ?_; refine pt_ HT_.out (i := 10) (N := some 56) (bm_ 13 2047) ?_; refine pt_ HT_.out (i := 11) (N := some 57) (bm_ 13 4095) ?_; refine pt_ HT_.out (i := 12) (N := some 2) (bm_ 13 8191) ?_; refine done_ (done_of HT_.out (by kernel_rfl)) ?_
   try go_wp2
   go_ret
   exact ⟨er_, bl1_ HB.out GE184.out⟩
mutual
def parser_formed.l0 : Nat → List (S41) → Int → Int → Option (Bool)
 | 0, _, _, _ => none
 | k + 1, x7, x8, x9 => if x9 < x8 then (if 0 ≤ x9 then (if x9 < (x7.length : Int) then ((lexer_Valid.f k 1 ((rd_T41 x7 x9).f0) 0 0).bind fun t190 => (if t190 = true then (if ((rd_T41 x7 x9).f2 = true) then (parser_formed.l1 k x7 x8 x9 ((rd_T41 x7 x9).f1) (((rd_T41 x7 x9).f1).length : Int) 0 ((rd_T41 x7 x9).f0) ((rd_T41 x7 x9).f1) ((rd_T41 x7 x9).f2) ((rd_T41 x7 x9).f3) ((rd_T41 x7 x9).f4)) else (if (((rd_T41 x7 x9).f3).length : Int) > 0 then (some false) else (parser_formed.l1 k x7 x8 x9 ((rd_T41 x7 x9).f1) (((rd_T41 x7 x9).f1).length : Int) 0 ((rd_T41 x7 x9).f0) ((rd_T41 x7 x9).f1) ((rd_T41 x7 x9).f2) ((rd_T41 x7 x9).f3) ((rd_T41 x7 x9).f4)))) else (some false))) else (none)) else (none)) else (some true)
def parser_formed.l1 : Nat → List (S41) → Int → Int → List (S46) → Int → Int → ByteArray → List (S46) → Bool → List (S41) → Int → Option (Bool)
 | 0, _, _, _, _, _, _, _, _, _, _, _ => none
 | k + 1, x7, x8, x9, x30, x31, x32, x190000, x190001, x190002, x190003, x190004 => if x32 < x31 then (if 0 ≤ x32 then (if x32 < (x30.length : Int) then ((parser_atom.f ((rd_T46 x30 x32).f0) ((rd_T46 x30 x32).f1) ((rd_T46 x30 x32).f2) ((rd_T46 x30 x32).f3)).bind fun t193 => (if t193 = true then ((lexer_Valid.f k ((rd_T46 x30 x32).f0) ((rd_T46 x30 x32).f1) ((rd_T46 x30 x32).f2) ((rd_T46 x30 x32).f3)).bind fun t194 => (if t194 = true then (parser_formed.l1 k x7 x8 x9 x30 x31 (wrap64 (x32 + 1)) x190000 x190001 x190002 x190003 x190004) else (some false))) else (some false))) else (none)) else (none)) else ((parser_formed.f k x190003).bind fun t195 => (if t195 = true then (parser_formed.l0 k x7 x8 (wrap64 (x9 + 1))) else (some false)))
def parser_formed.f : Nat → List (S41) → Option (Bool)
 | 0, _ => none
 | k + 1, l0 => parser_formed.l0 k l0 (l0.length : Int) 0
end
theorem parser_formed.mono_l : ∀ k, (∀ y0, LeO (parser_formed.f k y0) (parser_formed.f (k + 1) y0)) ∧ (∀ y0 y1 y2, LeO (parser_formed.l0 k y0 y1 y2) (parser_formed.l0 (k + 1) y0 y1 y2)) ∧ (∀ y0 y1 y2 y3 y4 y5 y6 y7 y8 y9 y10, LeO (parser_formed.l1 k y0 y1 y2 y3 y4 y5 y6 y7 y8 y9 y10) (parser_formed.l1 (k + 1) y0 y1 y2 y3 y4 y5 y6 y7 y8 y9 y10))
 | 0 => ⟨fun _ r h => by simp [parser_formed.f] at h, fun _ _ _ r h => by simp [parser_formed.l0] at h, fun _ _ _ _ _ _ _ _ _ _ _ r h => by simp [parser_formed.l1] at h⟩
 | k + 1 => by
  obtain ⟨ih0, ih1, ih2⟩ := parser_formed.mono_l k
  refine ⟨?_, ?_, ?_⟩
  ·
   intro y0
   unfold parser_formed.f
   repeat' first
   | (with_reducible exact LeO.refl _)
   | exact ih0 _
   | exact ih1 _ _ _
   | exact ih2 _ _ _ _ _ _ _ _ _ _ _
   | exact lexer_Valid.mono _ _ _ _ _
   | exact LeO.none _
   | refine LeO.ite ?_ ?_
   | refine LeO.bind ?_ (fun _ => ?_)
  ·
   intro y0 y1 y2
   unfold parser_formed.l0
   repeat' first
   | (with_reducible exact LeO.refl _)
   | exact ih0 _
   | exact ih1 _ _ _
   | exact ih2 _ _ _ _ _ _ _ _ _ _ _
   | exact lexer_Valid.mono _ _ _ _ _
   | exact LeO.none _
   | refine LeO.ite ?_ ?_
   | refine LeO.bind ?_ (fun _ => ?_)
  ·
   intro y0 y1 y2 y3 y4 y5 y6 y7 y8 y9 y10
   unfold parser_formed.l1
   repeat' first
   | (with_reducible exact LeO.refl _)
   | exact ih0 _
   | exact ih1 _ _ _
   | exact ih2 _ _ _ _ _ _ _ _ _ _ _
   | exact lexer_Valid.mono _ _ _ _ _
   | exact LeO.none _
   | refine LeO.ite ?_ ?_
   | refine LeO.bind ?_ (fun _ => ?_)
theorem parser_formed.mono : ∀ a0 k, LeO (parser_formed.f k a0) (parser_formed.f (k + 1) a0) := by
 intro a0 k
 obtain ⟨ih0, ih1, ih2⟩ := parser_formed.mono_l k
 exact ih0 a0
theorem parser_formed.calls (k : Nat) : ∀ (A0 : Option Addr) (c0 : Nat) (l0 : List (S41)) (r : Bool) (w : World) (hr0 : Kd.C k41 w A0 l0.length l0) (hc0 : l0.length ≤ c0) (h : parser_formed.f k l0 = some r),
  Calls Tryd.prog 56 #[.slice A0 l0.length c0] w fun e w' => e = .returned (.bool r) ∧ Below w.heap.size w w' := by
 induction k using Nat.strongRecOn with
 | _ k ih =>
 intro A0 c0 l0 r w hr0 hc0 h
 cases k with
 | zero => exact absurd h (by simp [parser_formed.f])
 | succ k =>
 simp only [parser_formed.f] at h; have hu41 := Tryd.underlying41; have hu46 := Tryd.underlying46; have HR0 := Aside0.mk hr0; have HC0 := Aside0.mk hc0; clear hr0 hc0; have HB := Aside0.mk (Below.refl w.heap.size w); have H : (parser_formed.l0 k l0 (l0.length : Int) 0) = some r := h; clear h; have H' := Aside0.mk H; clear H
 go_enter Tryd.func56, Tryd.ntmps56
 go_wp2
 go_loopg [9] k (fun kq v9 w' => ∃ (x9_1 : Int), v9 = .int .i64 x9_1 ∧ Aside0 (parser_formed.l0 kq l0 (l0.length : Int) x9_1 = some r) ∧ Aside0 (kq ≤ k) ∧ Aside0 (Below w.heap.size w w'))
 case atStart => exact ⟨(0), sr_, H', ⟨Nat.le_refl _⟩, ⟨bl_ HB.out⟩⟩
 case round =>
  clear H'; obtain ⟨x9_1, rfl, HA, HK1, HB⟩ := hrel; obtain _ | k1 := gk
  · exact absurd HA.out (by simp [parser_formed.l0])
  have H := HA.out; clear HA; simp only [parser_formed.l0] at H; replace H := (sd_ H).symm; obtain ⟨c2b0, H⟩ | ⟨c2b0, H⟩ := H
  ·
   obtain rfl := Option.some.inj H
   go_wp2
   go_ret
   exact ⟨er_, bl_ HB.out⟩
  replace H := gd_ H; obtain ⟨c3b0, H⟩ := H; replace H := gd_ H; obtain ⟨c4b0, H⟩ := H; replace H := bn_ H; obtain ⟨t190, A5, H⟩ := H; (try dsimp only at H); replace H := (sb_ H).symm; obtain ⟨rfl, H⟩ | ⟨rfl, H⟩ := H
  ·
   obtain rfl := Option.some.inj H; have p188 : 0 ≤ (x9_1 : Int) := dt_; have q188 : x9_1 < (l0.length : Int) := dt_; obtain ⟨ad188, A188_1, c188_1, A188_3, c188_3, e188, hx188_0, hx188_1, hx188_2, hx188_3, hx188_4, hl188_1, hi188_1, hl188_3, hi188_3⟩ := at_T41 HR0.out x9_1 p188 q188; cases e188; replace hx188_0 := pw_cell_below HB.out hx188_0; replace hx188_1 := pw_cell_below HB.out hx188_1; replace hx188_2 := pw_cell_below HB.out hx188_2; replace hx188_3 := pw_cell_below HB.out hx188_3; replace hx188_4 := pw_cell_below HB.out hx188_4; have HR188_1 := Aside0.mk hi188_1; have HC188_1 := Aside0.mk hl188_1; clear hi188_1 hl188_1; have HR188_3 := Aside0.mk hi188_3; have HC188_3 := Aside0.mk hl188_3; clear hi188_3 hl188_3; replace p188 := eq_true p188; replace q188 := eq_true q188
   go_wp2_with (first | ((with_reducible refine gate_dst (N := 4) rfl ?_); (try (refine gate_guard (by rfl) ?_; dsimp only)); refine bx_ (N := 4) (cs := #[.string (⟨#[]⟩ : ByteArray), .slice none 0 0, .bool false, .slice none 0 0, .int .i64 0]) (t := 41) ?_; intro gb189 hg w80 hbox hb; refine cut4_ (below_step (bl_ HB.out) hb) (hbox) (bz_ (w := w) hg (bl_ HB.out)) (bz_ (w := w) hg (bl_ HB.out)) ?_; clear HB; intro HB BK189 GW189 GE189; clear hb hbox hg; obtain ⟨hcz81_0, hcz81_1, hcz81_2, hcz81_3, hcz81_4, hfz81_0, hfz81_1, hfz81_2, hfz81_3, hfz81_4⟩ := cq5_ BK189.out) | ((with_reducible refine gate_callee (f := 36) rfl ?_); refine gk_ (some 16) Tryd.func36 (lexer_Valid.calls k1 1 ((rd_T41 l0 x9_1).f0) 0 0 false _ A5.out) ?_; rintro e w82 ⟨rfl, hb⟩; refine ⟨_, rfl, ?_⟩; refine cut2_ (blk_below (g := gb189) (o := .cells #[.string ((rd_T41 l0 x9_1).f0), .slice A188_1 ((rd_T41 l0 x9_1).f1).length c188_1, .bool ((rd_T41 l0 x9_1).f2), .slice A188_3 ((rd_T41 l0 x9_1).f3).length c188_3, .int .i64 ((rd_T41 l0 x9_1).f4)] 41 (0, 0)) (put5_ (bk_ BK189.out)) hb) (below_step (bl1_ HB.out GE189.out) hb) ?_; clear hb BK189 HB; intro BK189 HB))
   go_ret
   exact ⟨er_, bl1_ HB.out GE189.out⟩
  obtain ⟨bq7, hbq7⟩ : ∃ b_ : Bool, b_ = ((rd_T41 l0 x9_1).f2) := ⟨_, rfl⟩; replace H : (if (bq7 = true) then (parser_formed.l1 k1 l0 (l0.length : Int) x9_1 ((rd_T41 l0 x9_1).f1) (((rd_T41 l0 x9_1).f1).length : Int) 0 ((rd_T41 l0 x9_1).f0) ((rd_T41 l0 x9_1).f1) bq7 ((rd_T41 l0 x9_1).f3) ((rd_T41 l0 x9_1).f4)) else (if (((rd_T41 l0 x9_1).f3).length : Int) > 0 then (some false) else (parser_formed.l1 k1 l0 (l0.length : Int) x9_1 ((rd_T41 l0 x9_1).f1) (((rd_T41 l0 x9_1).f1).length : Int) 0 ((rd_T41 l0 x9_1).f0) ((rd_T41 l0 x9_1).f1) bq7 ((rd_T41 l0 x9_1).f3) ((rd_T41 l0 x9_1).f4)))) = some r := by rw [← hbq7] at H; exact H
  have Nbq7 := Aside0.mk hbq7; clear hbq7
  by_cases c8 : (bq7 = true)
  ·
   subst c8; have H1 : (parser_formed.l1 k1 l0 (l0.length : Int) x9_1 ((rd_T41 l0 x9_1).f1) (((rd_T41 l0 x9_1).f1).length : Int) 0 ((rd_T41 l0 x9_1).f0) ((rd_T41 l0 x9_1).f1) true ((rd_T41 l0 x9_1).f3) ((rd_T41 l0 x9_1).f4)) = some r := by rw [if_pos rfl] at H; exact H
   clear H; have H := H1; clear H1; have H' := Aside0.mk H; clear H; have p188 : 0 ≤ (x9_1 : Int) := dt_; have q188 : x9_1 < (l0.length : Int) := dt_; obtain ⟨ad188, A188_1, c188_1, A188_3, c188_3, e188, hx188_0, hx188_1, hx188_2, hx188_3, hx188_4, hl188_1, hi188_1, hl188_3, hi188_3⟩ := at_T41 HR0.out x9_1 p188 q188; (try rw [← Nbq7.out] at hx188_2); cases e188; replace hx188_0 := pw_cell_below HB.out hx188_0; replace hx188_1 := pw_cell_below HB.out hx188_1; replace hx188_2 := pw_cell_below HB.out hx188_2; replace hx188_3 := pw_cell_below HB.out hx188_3; replace hx188_4 := pw_cell_below HB.out hx188_4; have HR188_1 := Aside0.mk hi188_1; have HC188_1 := Aside0.mk hl188_1; clear hi188_1 hl188_1; have HR188_3 := Aside0.mk hi188_3; have HC188_3 := Aside0.mk hl188_3; clear hi188_3 hl188_3; replace p188 := eq_true p188; replace q188 := eq_true q188
   go_wp2_with (first | ((with_reducible refine gate_dst (N := 4) rfl ?_); (try (refine gate_guard (by rfl) ?_; dsimp only)); refine bx_ (N := 4) (cs := #[.string (⟨#[]⟩ : ByteArray), .slice none 0 0, .bool false, .slice none 0 0, .int .i64 0]) (t := 41) ?_; intro gb189 hg w9 hbox hb; refine cut4_ (below_step (bl_ HB.out) hb) (hbox) (bz_ (w := w) hg (bl_ HB.out)) (bz_ (w := w) hg (bl_ HB.out)) ?_; clear HB; intro HB BK189 GW189 GE189; clear hb hbox hg; obtain ⟨hcz10_0, hcz10_1, hcz10_2, hcz10_3, hcz10_4, hfz10_0, hfz10_1, hfz10_2, hfz10_3, hfz10_4⟩ := cq5_ BK189.out) | ((with_reducible refine gate_callee (f := 36) rfl ?_); refine gk_ (some 16) Tryd.func36 (lexer_Valid.calls k1 1 ((rd_T41 l0 x9_1).f0) 0 0 true _ A5.out) ?_; rintro e w11 ⟨rfl, hb⟩; refine ⟨_, rfl, ?_⟩; refine cut2_ (blk_below (g := gb189) (o := .cells #[.string ((rd_T41 l0 x9_1).f0), .slice A188_1 ((rd_T41 l0 x9_1).f1).length c188_1, .bool true, .slice A188_3 ((rd_T41 l0 x9_1).f3).length c188_3, .int .i64 ((rd_T41 l0 x9_1).f4)] 41 (0, 0)) (put5_ (bk_ BK189.out)) hb) (below_step (bl1_ HB.out GE189.out) hb) ?_; clear hb BK189 HB; intro BK189 HB; obtain ⟨hcz12_0, hcz12_1, hcz12_2, hcz12_3, hcz12_4, hfz12_0, hfz12_1, hfz12_2, hfz12_3, hfz12_4⟩ := cq5_ BK189.out))
   go_loopg [32] k1 (fun kq v32 w' => ∃ (x32_2 : Int), v32 = .int .i64 x32_2 ∧ Aside0 (parser_formed.l1 kq l0 (l0.length : Int) x9_1 ((rd_T41 l0 x9_1).f1) (((rd_T41 l0 x9_1).f1).length : Int) x32_2 ((rd_T41 l0 x9_1).f0) ((rd_T41 l0 x9_1).f1) true ((rd_T41 l0 x9_1).f3) ((rd_T41 l0 x9_1).f4) = some r) ∧ Aside0 (kq ≤ k1) ∧ Aside0 (w'.heap[gb189]? = some (.cells #[.string ((rd_T41 l0 x9_1).f0), (.slice A188_1 ((rd_T41 l0 x9_1).f1).length c188_1), .bool true, (.slice A188_3 ((rd_T41 l0 x9_1).f3).length c188_3), .int .i64 ((rd_T41 l0 x9_1).f4)] 41 (0, 0))) ∧ Aside0 (Below w.heap.size w w'))
   case atStart => exact ⟨(0), sr_, H', ⟨Nat.le_refl _⟩, ⟨bk_ BK189.out⟩, ⟨bl1_ HB.out GE189.out⟩⟩
   case round =>
    clear H'; (try clear c2); (try clear c2b0); (try clear c3); (try clear c3b0); (try clear c4); (try clear c4b0); (try clear c6); (try clear c8); (try clear hcz10_0); (try clear hcz10_1); (try clear hcz10_2); (try clear hcz10_3); (try clear hcz10_4); (try clear hcz12_0); (try clear hcz12_1); (try clear hcz12_2); (try clear hcz12_3); (try clear hcz12_4); (try clear hfz10_0); (try clear hfz10_1); (try clear hfz10_2); (try clear hfz10_3); (try clear hfz10_4); (try clear hfz12_0); (try clear hfz12_1); (try clear hfz12_2); (try clear hfz12_3); (try clear hfz12_4); (try clear hx188_0); (try clear hx188_1); (try clear hx188_2); (try clear hx188_3); (try clear hx188_4); (try clear p188); (try clear q188); obtain ⟨x32_2, rfl, HA, HK2, BK189, HB⟩ := hrel; obtain _ | k2 := gk
    · exact absurd HA.out (by simp [parser_formed.l1])
    have H := HA.out; clear HA; simp only [parser_formed.l1] at H; replace H := (sd_ H).symm; obtain ⟨c13b0, H⟩ | ⟨c13b0, H⟩ := H
    ·
     replace H := bn_ H; obtain ⟨t195, A36, H⟩ := H; (try dsimp only at H); replace H := (sb_ H).symm; obtain ⟨rfl, H⟩ | ⟨rfl, H⟩ := H
     ·
      obtain rfl := Option.some.inj H; obtain ⟨hcz40_0, hcz40_1, hcz40_2, hcz40_3, hcz40_4, hfz40_0, hfz40_1, hfz40_2, hfz40_3, hfz40_4⟩ := cq5_ BK189.out
      go_wp2_with (first | ((with_reducible refine gate_callee (f := 56) rfl ?_); refine gk_ (some 47) Tryd.func56 (ih k2 (by have := HK1.out; have := HK2.out; omega) _ _ ((rd_T41 l0 x9_1).f3) false _ ?side1 ?side2 A36.out) ?_; (case side1 => repeat (first | exact (Kd.C_below HR188_3.out HB.out) | (with_reducible refine Kd.C_alloc ?_ _) | (with_reducible refine Kd.C_drewN ?_ _) | (with_reducible refine Kd.C_drew ?_))); (case side2 => exact HC188_3.out); rintro e w41 ⟨rfl, hb⟩; refine ⟨_, rfl, ?_⟩; refine cut2_ (bb_ BK189.out hb) (below_step (bl1_ HB.out GE189.out) hb) ?_; clear hb BK189 HB; intro BK189 HB))
      go_ret
      exact ⟨er_, bl1_ HB.out GE189.out⟩
     have H' := Aside0.mk H; clear H; obtain ⟨hcz38_0, hcz38_1, hcz38_2, hcz38_3, hcz38_4, hfz38_0, hfz38_1, hfz38_2, hfz38_3, hfz38_4⟩ := cq5_ BK189.out
     go_wp2_with (first | ((with_reducible refine gate_callee (f := 56) rfl ?_); refine gk_ (some 47) Tryd.func56 (ih k2 (by have := HK1.out; have := HK2.out; omega) _ _ ((rd_T41 l0 x9_1).f3) true _ ?side1 ?side2 A36.out) ?_; (case side1 => repeat (first | exact (Kd.C_below HR188_3.out HB.out) | (with_reducible refine Kd.C_alloc ?_ _) | (with_reducible refine Kd.C_drewN ?_ _) | (with_reducible refine Kd.C_drew ?_))); (case side2 => exact HC188_3.out); rintro e w39 ⟨rfl, hb⟩; refine ⟨_, rfl, ?_⟩; refine cut2_ (bb_ BK189.out hb) (below_step (bl1_ HB.out GE189.out) hb) ?_; clear hb BK189 HB; intro BK189 HB))
     go_roundg k2
     case measure => have := HK1.out; have := HK2.out; omega
     case rel => exact ⟨(wrap64 (x9_1 + 1)), sr_, H', ⟨by have := HK1.out; have := HK2.out; omega⟩, ⟨bl1_ HB.out GE189.out⟩⟩
    replace H := gd_ H; obtain ⟨c14b0, H⟩ := H; replace H := gd_ H; obtain ⟨c15b0, H⟩ := H; replace H := bn_ H; obtain ⟨t193, A16, H⟩ := H; (try dsimp only at H); replace H := (sb_ H).symm; obtain ⟨rfl, H⟩ | ⟨rfl, H⟩ := H
    ·
     obtain rfl := Option.some.inj H; have p191 : 0 ≤ (x32_2 : Int) := dt_; have q191 : x32_2 < (((rd_T41 l0 x9_1).f1).length : Int) := dt_; obtain ⟨ad191, e191, hx191_0, hx191_1, hx191_2, hx191_3⟩ := at_T46 HR188_1.out x32_2 p191 q191; cases e191; replace hx191_0 := pw_cell_below HB.out hx191_0; replace hx191_1 := pw_cell_below HB.out hx191_1; replace hx191_2 := pw_cell_below HB.out hx191_2; replace hx191_3 := pw_cell_below HB.out hx191_3; replace p191 := eq_true p191; replace q191 := eq_true q191
     go_wp2_with (first | ((with_reducible refine gate_dst (N := 6) rfl ?_); (try (refine gate_guard (by rfl) ?_; dsimp only)); refine bx_ (N := 6) (cs := #[.int .i64 0, .string (⟨#[]⟩ : ByteArray), .int .i64 0, .int .i64 0]) (t := 46) ?_; intro gb192 hg w32 hbox hb; refine cut7_ (bb_ BK189.out hb) (below_step (bl1_ HB.out GE189.out) hb) (hbox) (bz_ (w := w) hg (bl1_ HB.out GE189.out)) (bz_ (w := w) hg (bl1_ HB.out GE189.out)) (nl_ hg BK189.out) (ng_ hg BK189.out) ?_; clear BK189 HB; intro BK189 HB BK192 GW192 GE192 NB189_192 NB192_189; clear hb hbox hg; have hnb33 := NB192_189.out; have hnc33 := NB189_192.out; obtain ⟨hcz34_0, hcz34_1, hcz34_2, hcz34_3, hfz34_0, hfz34_1, hfz34_2, hfz34_3⟩ := cq4_ BK192.out) | ((with_reducible refine gate_callee (f := 85) rfl ?_); refine gk_ (some 37) Tryd.func85 (parser_atom.calls ((rd_T46 ((rd_T41 l0 x9_1).f1) x32_2).f0) ((rd_T46 ((rd_T41 l0 x9_1).f1) x32_2).f1) ((rd_T46 ((rd_T41 l0 x9_1).f1) x32_2).f2) ((rd_T46 ((rd_T41 l0 x9_1).f1) x32_2).f3) false _ A16.out) ?_; rintro e w35 ⟨rfl, hb⟩; refine ⟨_, rfl, ?_⟩; refine cut3_ (blk_below (g := gb189) (o := .cells #[.string ((rd_T41 l0 x9_1).f0), .slice (some ad191) ((rd_T41 l0 x9_1).f1).length c188_1, .bool true, .slice A188_3 ((rd_T41 l0 x9_1).f3).length c188_3, .int .i64 ((rd_T41 l0 x9_1).f4)] 41 (0, 0)) (far4_ (bk_ BK189.out) NB189_192.out) hb) (blk_below (g := gb192) (o := .cells #[.int .i64 ((rd_T46 ((rd_T41 l0 x9_1).f1) x32_2).f0), .string ((rd_T46 ((rd_T41 l0 x9_1).f1) x32_2).f1), .int .i64 ((rd_T46 ((rd_T41 l0 x9_1).f1) x32_2).f2), .int .i64 ((rd_T46 ((rd_T41 l0 x9_1).f1) x32_2).f3)] 46 (0, 0)) (put4_ (bk_ BK192.out)) hb) (below_step (bl2_ HB.out GE189.out GE192.out) hb) ?_; clear hb BK189 BK192 HB; intro BK189 BK192 HB))
     go_ret
     exact ⟨er_, bl2_ HB.out GE189.out GE192.out⟩
    replace H := bn_ H; obtain ⟨t194, A18, H⟩ := H; (try dsimp only at H); replace H := (sb_ H).symm; obtain ⟨rfl, H⟩ | ⟨rfl, H⟩ := H
    ·
     obtain rfl := Option.some.inj H; have p191 : 0 ≤ (x32_2 : Int) := dt_; have q191 : x32_2 < (((rd_T41 l0 x9_1).f1).length : Int) := dt_; obtain ⟨ad191, e191, hx191_0, hx191_1, hx191_2, hx191_3⟩ := at_T46 HR188_1.out x32_2 p191 q191; cases e191; replace hx191_0 := pw_cell_below HB.out hx191_0; replace hx191_1 := pw_cell_below HB.out hx191_1; replace hx191_2 := pw_cell_below HB.out hx191_2; replace hx191_3 := pw_cell_below HB.out hx191_3; replace p191 := eq_true p191; replace q191 := eq_true q191
     go_wp2_with (first | ((with_reducible refine gate_dst (N := 6) rfl ?_); (try (refine gate_guard (by rfl) ?_; dsimp only)); refine bx_ (N := 6) (cs := #[.int .i64 0, .string (⟨#[]⟩ : ByteArray), .int .i64 0, .int .i64 0]) (t := 46) ?_; intro gb192 hg w26 hbox hb; refine cut7_ (bb_ BK189.out hb) (below_step (bl1_ HB.out GE189.out) hb) (hbox) (bz_ (w := w) hg (bl1_ HB.out GE189.out)) (bz_ (w := w) hg (bl1_ HB.out GE189.out)) (nl_ hg BK189.out) (ng_ hg BK189.out) ?_; clear BK189 HB; intro BK189 HB BK192 GW192 GE192 NB189_192 NB192_189; clear hb hbox hg; have hnb27 := NB192_189.out; have hnc27 := NB189_192.out; obtain ⟨hcz28_0, hcz28_1, hcz28_2, hcz28_3, hfz28_0, hfz28_1, hfz28_2, hfz28_3⟩ := cq4_ BK192.out) | ((with_reducible refine gate_callee (f := 85) rfl ?_); refine gk_ (some 37) Tryd.func85 (parser_atom.calls ((rd_T46 ((rd_T41 l0 x9_1).f1) x32_2).f0) ((rd_T46 ((rd_T41 l0 x9_1).f1) x32_2).f1) ((rd_T46 ((rd_T41 l0 x9_1).f1) x32_2).f2) ((rd_T46 ((rd_T41 l0 x9_1).f1) x32_2).f3) true _ A16.out) ?_; rintro e w29 ⟨rfl, hb⟩; refine ⟨_, rfl, ?_⟩; refine cut3_ (blk_below (g := gb189) (o := .cells #[.string ((rd_T41 l0 x9_1).f0), .slice (some ad191) ((rd_T41 l0 x9_1).f1).length c188_1, .bool true, .slice A188_3 ((rd_T41 l0 x9_1).f3).length c188_3, .int .i64 ((rd_T41 l0 x9_1).f4)] 41 (0, 0)) (far4_ (bk_ BK189.out) NB189_192.out) hb) (blk_below (g := gb192) (o := .cells #[.int .i64 ((rd_T46 ((rd_T41 l0 x9_1).f1) x32_2).f0), .string ((rd_T46 ((rd_T41 l0 x9_1).f1) x32_2).f1), .int .i64 ((rd_T46 ((rd_T41 l0 x9_1).f1) x32_2).f2), .int .i64 ((rd_T46 ((rd_T41 l0 x9_1).f1) x32_2).f3)] 46 (0, 0)) (put4_ (bk_ BK192.out)) hb) (below_step (bl2_ HB.out GE189.out GE192.out) hb) ?_; clear hb BK189 BK192 HB; intro BK189 BK192 HB; obtain ⟨hcz30_0, hcz30_1, hcz30_2, hcz30_3, hfz30_0, hfz30_1, hfz30_2, hfz30_3⟩ := cq4_ BK192.out) | (go_at_call 36; (with_reducible refine (lexer_Valid.calls k2 ((rd_T46 ((rd_T41 l0 x9_1).f1) x32_2).f0) ((rd_T46 ((rd_T41 l0 x9_1).f1) x32_2).f1) ((rd_T46 ((rd_T41 l0 x9_1).f1) x32_2).f2) ((rd_T46 ((rd_T41 l0 x9_1).f1) x32_2).f3) false _ A18.out).mono ?_); rintro e w31 ⟨rfl, hb⟩; refine cut3_ (bb_ BK189.out hb) (bb_ BK192.out hb) (below_step (bl2_ HB.out GE189.out GE192.out) hb) ?_; clear BK189 BK192 HB; intro BK189 BK192 HB; (try clear hb); (try clear hb2); (try clear hk); (try clear hi)))
     go_ret
     exact ⟨er_, bl2_ HB.out GE189.out GE192.out⟩
    have H' := Aside0.mk H; clear H; have p191 : 0 ≤ (x32_2 : Int) := dt_; have q191 : x32_2 < (((rd_T41 l0 x9_1).f1).length : Int) := dt_; obtain ⟨ad191, e191, hx191_0, hx191_1, hx191_2, hx191_3⟩ := at_T46 HR188_1.out x32_2 p191 q191; cases e191; replace hx191_0 := pw_cell_below HB.out hx191_0; replace hx191_1 := pw_cell_below HB.out hx191_1; replace hx191_2 := pw_cell_below HB.out hx191_2; replace hx191_3 := pw_cell_below HB.out hx191_3; replace p191 := eq_true p191; replace q191 := eq_true q191
    go_wp2_with (first | ((with_reducible refine gate_dst (N := 6) rfl ?_); (try (refine gate_guard (by rfl) ?_; dsimp only)); refine bx_ (N := 6) (cs := #[.int .i64 0, .string (⟨#[]⟩ : ByteArray), .int .i64 0, .int .i64 0]) (t := 46) ?_; intro gb192 hg w20 hbox hb; refine cut7_ (bb_ BK189.out hb) (below_step (bl1_ HB.out GE189.out) hb) (hbox) (bz_ (w := w) hg (bl1_ HB.out GE189.out)) (bz_ (w := w) hg (bl1_ HB.out GE189.out)) (nl_ hg BK189.out) (ng_ hg BK189.out) ?_; clear BK189 HB; intro BK189 HB BK192 GW192 GE192 NB189_192 NB192_189; clear hb hbox hg; have hnb21 := NB192_189.out; have hnc21 := NB189_192.out; obtain ⟨hcz22_0, hcz22_1, hcz22_2, hcz22_3, hfz22_0, hfz22_1, hfz22_2, hfz22_3⟩ := cq4_ BK192.out) | ((with_reducible refine gate_callee (f := 85) rfl ?_); refine gk_ (some 37) Tryd.func85 (parser_atom.calls ((rd_T46 ((rd_T41 l0 x9_1).f1) x32_2).f0) ((rd_T46 ((rd_T41 l0 x9_1).f1) x32_2).f1) ((rd_T46 ((rd_T41 l0 x9_1).f1) x32_2).f2) ((rd_T46 ((rd_T41 l0 x9_1).f1) x32_2).f3) true _ A16.out) ?_; rintro e w23 ⟨rfl, hb⟩; refine ⟨_, rfl, ?_⟩; refine cut3_ (blk_below (g := gb189) (o := .cells #[.string ((rd_T41 l0 x9_1).f0), .slice (some ad191) ((rd_T41 l0 x9_1).f1).length c188_1, .bool true, .slice A188_3 ((rd_T41 l0 x9_1).f3).length c188_3, .int .i64 ((rd_T41 l0 x9_1).f4)] 41 (0, 0)) (far4_ (bk_ BK189.out) NB189_192.out) hb) (blk_below (g := gb192) (o := .cells #[.int .i64 ((rd_T46 ((rd_T41 l0 x9_1).f1) x32_2).f0), .string ((rd_T46 ((rd_T41 l0 x9_1).f1) x32_2).f1), .int .i64 ((rd_T46 ((rd_T41 l0 x9_1).f1) x32_2).f2), .int .i64 ((rd_T46 ((rd_T41 l0 x9_1).f1) x32_2).f3)] 46 (0, 0)) (put4_ (bk_ BK192.out)) hb) (below_step (bl2_ HB.out GE189.out GE192.out) hb) ?_; clear hb BK189 BK192 HB; intro BK189 BK192 HB; obtain ⟨hcz24_0, hcz24_1, hcz24_2, hcz24_3, hfz24_0, hfz24_1, hfz24_2, hfz24_3⟩ := cq4_ BK192.out) | (go_at_call 36; (with_reducible refine (lexer_Valid.calls k2 ((rd_T46 ((rd_T41 l0 x9_1).f1) x32_2).f0) ((rd_T46 ((rd_T41 l0 x9_1).f1) x32_2).f1) ((rd_T46 ((rd_T41 l0 x9_1).f1) x32_2).f2) ((rd_T46 ((rd_T41 l0 x9_1).f1) x32_2).f3) true _ A18.out).mono ?_); rintro e w25 ⟨rfl, hb⟩; refine cut3_ (bb_ BK189.out hb) (bb_ BK192.out hb) (below_step (bl2_ HB.out GE189.out GE192.out) hb) ?_; clear BK189 BK192 HB; intro BK189 BK192 HB; (try clear hb); (try clear hb2); (try clear hk); (try clear hi)))
    go_roundg k2
    case measure => have := HK1.out; have := HK2.out; omega
    case rel => exact ⟨(wrap64 (x32_2 + 1)), sr_, H', ⟨by have := HK1.out; have := HK2.out; omega⟩, ⟨bk_ BK189.out⟩, ⟨bl2_ HB.out GE189.out GE192.out⟩⟩
  replace c8 := Bool.eq_false_iff.mpr c8; subst c8; have H1 : (if (((rd_T41 l0 x9_1).f3).length : Int) > 0 then (some false) else (parser_formed.l1 k1 l0 (l0.length : Int) x9_1 ((rd_T41 l0 x9_1).f1) (((rd_T41 l0 x9_1).f1).length : Int) 0 ((rd_T41 l0 x9_1).f0) ((rd_T41 l0 x9_1).f1) false ((rd_T41 l0 x9_1).f3) ((rd_T41 l0 x9_1).f4))) = some r := by rw [if_neg (show ¬ (false = true) by decide)] at H; exact H
  clear H; have H := H1; clear H1; replace H := sp_ H; obtain ⟨c42, H⟩ | ⟨c42, H⟩ := H
  ·
   have c42b0 := decide_eq_true c42; have c42b1 : decide (0 < ((rd_T41 l0 x9_1).f3).length) = true := decide_eq_true (by omega); clear c42; obtain rfl := Option.some.inj H; have p188 : 0 ≤ (x9_1 : Int) := dt_; have q188 : x9_1 < (l0.length : Int) := dt_; obtain ⟨ad188, A188_1, c188_1, A188_3, c188_3, e188, hx188_0, hx188_1, hx188_2, hx188_3, hx188_4, hl188_1, hi188_1, hl188_3, hi188_3⟩ := at_T41 HR0.out x9_1 p188 q188; (try rw [← Nbq7.out] at hx188_2); cases e188; replace hx188_0 := pw_cell_below HB.out hx188_0; replace hx188_1 := pw_cell_below HB.out hx188_1; replace hx188_2 := pw_cell_below HB.out hx188_2; replace hx188_3 := pw_cell_below HB.out hx188_3; replace hx188_4 := pw_cell_below HB.out hx188_4; have HR188_1 := Aside0.mk hi188_1; have HC188_1 := Aside0.mk hl188_1; clear hi188_1 hl188_1; have HR188_3 := Aside0.mk hi188_3; have HC188_3 := Aside0.mk hl188_3; clear hi188_3 hl188_3; replace p188 := eq_true p188; replace q188 := eq_true q188
   go_wp2_with (first | ((with_reducible refine gate_dst (N := 4) rfl ?_); (try (refine gate_guard (by rfl) ?_; dsimp only)); refine bx_ (N := 4) (cs := #[.string (⟨#[]⟩ : ByteArray), .slice none 0 0, .bool false, .slice none 0 0, .int .i64 0]) (t := 41) ?_; intro gb189 hg w43 hbox hb; refine cut4_ (below_step (bl_ HB.out) hb) (hbox) (bz_ (w := w) hg (bl_ HB.out)) (bz_ (w := w) hg (bl_ HB.out)) ?_; clear HB; intro HB BK189 GW189 GE189; clear hb hbox hg; obtain ⟨hcz44_0, hcz44_1, hcz44_2, hcz44_3, hcz44_4, hfz44_0, hfz44_1, hfz44_2, hfz44_3, hfz44_4⟩ := cq5_ BK189.out) | ((with_reducible refine gate_callee (f := 36) rfl ?_); refine gk_ (some 16) Tryd.func36 (lexer_Valid.calls k1 1 ((rd_T41 l0 x9_1).f0) 0 0 true _ A5.out) ?_; rintro e w45 ⟨rfl, hb⟩; refine ⟨_, rfl, ?_⟩; refine cut2_ (blk_below (g := gb189) (o := .cells #[.string ((rd_T41 l0 x9_1).f0), .slice A188_1 ((rd_T41 l0 x9_1).f1).length c188_1, .bool false, .slice A188_3 ((rd_T41 l0 x9_1).f3).length c188_3, .int .i64 ((rd_T41 l0 x9_1).f4)] 41 (0, 0)) (put5_ (bk_ BK189.out)) hb) (below_step (bl1_ HB.out GE189.out) hb) ?_; clear hb BK189 HB; intro BK189 HB; obtain ⟨hcz46_0, hcz46_1, hcz46_2, hcz46_3, hcz46_4, hfz46_0, hfz46_1, hfz46_2, hfz46_3, hfz46_4⟩ := cq5_ BK189.out))
   go_ret
   exact ⟨er_, bl1_ HB.out GE189.out⟩
  have c42b0 := decide_eq_false c42; have c42b1 : decide (0 < ((rd_T41 l0 x9_1).f3).length) = false := decide_eq_false (by omega); clear c42; have H' := Aside0.mk H; clear H; have p188 : 0 ≤ (x9_1 : Int) := dt_; have q188 : x9_1 < (l0.length : Int) := dt_; obtain ⟨ad188, A188_1, c188_1, A188_3, c188_3, e188, hx188_0, hx188_1, hx188_2, hx188_3, hx188_4, hl188_1, hi188_1, hl188_3, hi188_3⟩ := at_T41 HR0.out x9_1 p188 q188; (try rw [← Nbq7.out] at hx188_2); cases e188; replace hx188_0 := pw_cell_below HB.out hx188_0; replace hx188_1 := pw_cell_below HB.out hx188_1; replace hx188_2 := pw_cell_below HB.out hx188_2; replace hx188_3 := pw_cell_below HB.out hx188_3; replace hx188_4 := pw_cell_below HB.out hx188_4; have HR188_1 := Aside0.mk hi188_1; have HC188_1 := Aside0.mk hl188_1; clear hi188_1 hl188_1; have HR188_3 := Aside0.mk hi188_3; have HC188_3 := Aside0.mk hl188_3; clear hi188_3 hl188_3; replace p188 := eq_true p188; replace q188 := eq_true q188
  go_wp2_with (first | ((with_reducible refine gate_dst (N := 4) rfl ?_); (try (refine gate_guard (by rfl) ?_; dsimp only)); refine bx_ (N := 4) (cs := #[.string (⟨#[]⟩ : ByteArray), .slice none 0 0, .bool false, .slice none 0 0, .int .i64 0]) (t := 41) ?_; intro gb189 hg w47 hbox hb; refine cut4_ (below_step (bl_ HB.out) hb) (hbox) (bz_ (w := w) hg (bl_ HB.out)) (bz_ (w := w) hg (bl_ HB.out)) ?_; clear HB; intro HB BK189 GW189 GE189; clear hb hbox hg; obtain ⟨hcz48_0, hcz48_1, hcz48_2, hcz48_3, hcz48_4, hfz48_0, hfz48_1, hfz48_2, hfz48_3, hfz48_4⟩ := cq5_ BK189.out) | ((with_reducible refine gate_callee (f := 36) rfl ?_); refine gk_ (some 16) Tryd.func36 (lexer_Valid.calls k1 1 ((rd_T41 l0 x9_1).f0) 0 0 true _ A5.out) ?_; rintro e w49 ⟨rfl, hb⟩; refine ⟨_, rfl, ?_⟩; refine cut2_ (blk_below (g := gb189) (o := .cells #[.string ((rd_T41 l0 x9_1).f0), .slice A188_1 ((rd_T41 l0 x9_1).f1).length c188_1, .bool false, .slice A188_3 ((rd_T41 l0 x9_1).f3).length c188_3, .int .i64 ((rd_T41 l0 x9_1).f4)] 41 (0, 0)) (put5_ (bk_ BK189.out)) hb) (below_step (bl1_ HB.out GE189.out) hb) ?_; clear hb BK189 HB; intro BK189 HB; obtain ⟨hcz50_0, hcz50_1, hcz50_2, hcz50_3, hcz50_4, hfz50_0, hfz50_1, hfz50_2, hfz50_3, hfz50_4⟩ := cq5_ BK189.out))
  go_loopg [32] k1 (fun kq v32 w' => ∃ (x32_2 : Int), v32 = .int .i64 x32_2 ∧ Aside0 (parser_formed.l1 kq l0 (l0.length : Int) x9_1 ((rd_T41 l0 x9_1).f1) (((rd_T41 l0 x9_1).f1).length : Int) x32_2 ((rd_T41 l0 x9_1).f0) ((rd_T41 l0 x9_1).f1) false ((rd_T41 l0 x9_1).f3) ((rd_T41 l0 x9_1).f4) = some r) ∧ Aside0 (kq ≤ k1) ∧ Aside0 (w'.heap[gb189]? = some (.cells #[.string ((rd_T41 l0 x9_1).f0), (.slice A188_1 ((rd_T41 l0 x9_1).f1).length c188_1), .bool false, (.slice A188_3 ((rd_T41 l0 x9_1).f3).length c188_3), .int .i64 ((rd_T41 l0 x9_1).f4)] 41 (0, 0))) ∧ Aside0 (Below w.heap.size w w'))
  case atStart => exact ⟨(0), sr_, H', ⟨Nat.le_refl _⟩, ⟨bk_ BK189.out⟩, ⟨bl1_ HB.out GE189.out⟩⟩
  case round =>
   clear H'; (try clear c2); (try clear c2b0); (try clear c3); (try clear c3b0); (try clear c4); (try clear c4b0); (try clear c6); (try clear c8); (try clear c42); (try clear c42b0); (try clear c42b1); (try clear hcz48_0); (try clear hcz48_1); (try clear hcz48_2); (try clear hcz48_3); (try clear hcz48_4); (try clear hcz50_0); (try clear hcz50_1); (try clear hcz50_2); (try clear hcz50_3); (try clear hcz50_4); (try clear hfz48_0); (try clear hfz48_1); (try clear hfz48_2); (try clear hfz48_3); (try clear hfz48_4); (try clear hfz50_0); (try clear hfz50_1); (try clear hfz50_2); (try clear hfz50_3); (try clear hfz50_4); (try clear hx188_0); (try clear hx188_1); (try clear hx188_2); (try clear hx188_3); (try clear hx188_4); (try clear p188); (try clear q188); obtain ⟨x32_2, rfl, HA, HK2, BK189, HB⟩ := hrel; obtain _ | k2 := gk
   · exact absurd HA.out (by simp [parser_formed.l1])
   have H := HA.out; clear HA; simp only [parser_formed.l1] at H; replace H := (sd_ H).symm; obtain ⟨c51b0, H⟩ | ⟨c51b0, H⟩ := H
   ·
    replace H := bn_ H; obtain ⟨t195, A74, H⟩ := H; (try dsimp only at H); replace H := (sb_ H).symm; obtain ⟨rfl, H⟩ | ⟨rfl, H⟩ := H
    ·
     obtain rfl := Option.some.inj H; obtain ⟨hcz78_0, hcz78_1, hcz78_2, hcz78_3, hcz78_4, hfz78_0, hfz78_1, hfz78_2, hfz78_3, hfz78_4⟩ := cq5_ BK189.out
     go_wp2_with (first | ((with_reducible refine gate_callee (f := 56) rfl ?_); refine gk_ (some 47) Tryd.func56 (ih k2 (by have := HK1.out; have := HK2.out; omega) _ _ ((rd_T41 l0 x9_1).f3) false _ ?side1 ?side2 A74.out) ?_; (case side1 => repeat (first | exact (Kd.C_below HR188_3.out HB.out) | (with_reducible refine Kd.C_alloc ?_ _) | (with_reducible refine Kd.C_drewN ?_ _) | (with_reducible refine Kd.C_drew ?_))); (case side2 => exact HC188_3.out); rintro e w79 ⟨rfl, hb⟩; refine ⟨_, rfl, ?_⟩; refine cut2_ (bb_ BK189.out hb) (below_step (bl1_ HB.out GE189.out) hb) ?_; clear hb BK189 HB; intro BK189 HB))
     go_ret
     exact ⟨er_, bl1_ HB.out GE189.out⟩
    have H' := Aside0.mk H; clear H; obtain ⟨hcz76_0, hcz76_1, hcz76_2, hcz76_3, hcz76_4, hfz76_0, hfz76_1, hfz76_2, hfz76_3, hfz76_4⟩ := cq5_ BK189.out
    go_wp2_with (first | ((with_reducible refine gate_callee (f := 56) rfl ?_); refine gk_ (some 47) Tryd.func56 (ih k2 (by have := HK1.out; have := HK2.out; omega) _ _ ((rd_T41 l0 x9_1).f3) true _ ?side1 ?side2 A74.out) ?_; (case side1 => repeat (first | exact (Kd.C_below HR188_3.out HB.out) | (with_reducible refine Kd.C_alloc ?_ _) | (with_reducible refine Kd.C_drewN ?_ _) | (with_reducible refine Kd.C_drew ?_))); (case side2 => exact HC188_3.out); rintro e w77 ⟨rfl, hb⟩; refine ⟨_, rfl, ?_⟩; refine cut2_ (bb_ BK189.out hb) (below_step (bl1_ HB.out GE189.out) hb) ?_; clear hb BK189 HB; intro BK189 HB))
    go_roundg k2
    case measure => have := HK1.out; have := HK2.out; omega
    case rel => exact ⟨(wrap64 (x9_1 + 1)), sr_, H', ⟨by have := HK1.out; have := HK2.out; omega⟩, ⟨bl1_ HB.out GE189.out⟩⟩
   replace H := gd_ H; obtain ⟨c52b0, H⟩ := H; replace H := gd_ H; obtain ⟨c53b0, H⟩ := H; replace H := bn_ H; obtain ⟨t193, A54, H⟩ := H; (try dsimp only at H); replace H := (sb_ H).symm; obtain ⟨rfl, H⟩ | ⟨rfl, H⟩ := H
   ·
    obtain rfl := Option.some.inj H; have p191 : 0 ≤ (x32_2 : Int) := dt_; have q191 : x32_2 < (((rd_T41 l0 x9_1).f1).length : Int) := dt_; obtain ⟨ad191, e191, hx191_0, hx191_1, hx191_2, hx191_3⟩ := at_T46 HR188_1.out x32_2 p191 q191; cases e191; replace hx191_0 := pw_cell_below HB.out hx191_0; replace hx191_1 := pw_cell_below HB.out hx191_1; replace hx191_2 := pw_cell_below HB.out hx191_2; replace hx191_3 := pw_cell_below HB.out hx191_3; replace p191 := eq_true p191; replace q191 := eq_true q191
    go_wp2_with (first | ((with_reducible refine gate_dst (N := 6) rfl ?_); (try (refine gate_guard (by rfl) ?_; dsimp only)); refine bx_ (N := 6) (cs := #[.int .i64 0, .string (⟨#[]⟩ : ByteArray), .int .i64 0, .int .i64 0]) (t := 46) ?_; intro gb192 hg w70 hbox hb; refine cut7_ (bb_ BK189.out hb) (below_step (bl1_ HB.out GE189.out) hb) (hbox) (bz_ (w := w) hg (bl1_ HB.out GE189.out)) (bz_ (w := w) hg (bl1_ HB.out GE189.out)) (nl_ hg BK189.out) (ng_ hg BK189.out) ?_; clear BK189 HB; intro BK189 HB BK192 GW192 GE192 NB189_192 NB192_189; clear hb hbox hg; have hnb71 := NB192_189.out; have hnc71 := NB189_192.out; obtain ⟨hcz72_0, hcz72_1, hcz72_2, hcz72_3, hfz72_0, hfz72_1, hfz72_2, hfz72_3⟩ := cq4_ BK192.out) | ((with_reducible refine gate_callee (f := 85) rfl ?_); refine gk_ (some 37) Tryd.func85 (parser_atom.calls ((rd_T46 ((rd_T41 l0 x9_1).f1) x32_2).f0) ((rd_T46 ((rd_T41 l0 x9_1).f1) x32_2).f1) ((rd_T46 ((rd_T41 l0 x9_1).f1) x32_2).f2) ((rd_T46 ((rd_T41 l0 x9_1).f1) x32_2).f3) false _ A54.out) ?_; rintro e w73 ⟨rfl, hb⟩; refine ⟨_, rfl, ?_⟩; refine cut3_ (blk_below (g := gb189) (o := .cells #[.string ((rd_T41 l0 x9_1).f0), .slice (some ad191) ((rd_T41 l0 x9_1).f1).length c188_1, .bool false, .slice A188_3 ((rd_T41 l0 x9_1).f3).length c188_3, .int .i64 ((rd_T41 l0 x9_1).f4)] 41 (0, 0)) (far4_ (bk_ BK189.out) NB189_192.out) hb) (blk_below (g := gb192) (o := .cells #[.int .i64 ((rd_T46 ((rd_T41 l0 x9_1).f1) x32_2).f0), .string ((rd_T46 ((rd_T41 l0 x9_1).f1) x32_2).f1), .int .i64 ((rd_T46 ((rd_T41 l0 x9_1).f1) x32_2).f2), .int .i64 ((rd_T46 ((rd_T41 l0 x9_1).f1) x32_2).f3)] 46 (0, 0)) (put4_ (bk_ BK192.out)) hb) (below_step (bl2_ HB.out GE189.out GE192.out) hb) ?_; clear hb BK189 BK192 HB; intro BK189 BK192 HB))
    go_ret
    exact ⟨er_, bl2_ HB.out GE189.out GE192.out⟩
   replace H := bn_ H; obtain ⟨t194, A56, H⟩ := H; (try dsimp only at H); replace H := (sb_ H).symm; obtain ⟨rfl, H⟩ | ⟨rfl, H⟩ := H
   ·
    obtain rfl := Option.some.inj H; have p191 : 0 ≤ (x32_2 : Int) := dt_; have q191 : x32_2 < (((rd_T41 l0 x9_1).f1).length : Int) := dt_; obtain ⟨ad191, e191, hx191_0, hx191_1, hx191_2, hx191_3⟩ := at_T46 HR188_1.out x32_2 p191 q191; cases e191; replace hx191_0 := pw_cell_below HB.out hx191_0; replace hx191_1 := pw_cell_below HB.out hx191_1; replace hx191_2 := pw_cell_below HB.out hx191_2; replace hx191_3 := pw_cell_below HB.out hx191_3; replace p191 := eq_true p191; replace q191 := eq_true q191
    go_wp2_with (first | ((with_reducible refine gate_dst (N := 6) rfl ?_); (try (refine gate_guard (by rfl) ?_; dsimp only)); refine bx_ (N := 6) (cs := #[.int .i64 0, .string (⟨#[]⟩ : ByteArray), .int .i64 0, .int .i64 0]) (t := 46) ?_; intro gb192 hg w64 hbox hb; refine cut7_ (bb_ BK189.out hb) (below_step (bl1_ HB.out GE189.out) hb) (hbox) (bz_ (w := w) hg (bl1_ HB.out GE189.out)) (bz_ (w := w) hg (bl1_ HB.out GE189.out)) (nl_ hg BK189.out) (ng_ hg BK189.out) ?_; clear BK189 HB; intro BK189 HB BK192 GW192 GE192 NB189_192 NB192_189; clear hb hbox hg; have hnb65 := NB192_189.out; have hnc65 := NB189_192.out; obtain ⟨hcz66_0, hcz66_1, hcz66_2, hcz66_3, hfz66_0, hfz66_1, hfz66_2, hfz66_3⟩ := cq4_ BK192.out) | ((with_reducible refine gate_callee (f := 85) rfl ?_); refine gk_ (some 37) Tryd.func85 (parser_atom.calls ((rd_T46 ((rd_T41 l0 x9_1).f1) x32_2).f0) ((rd_T46 ((rd_T41 l0 x9_1).f1) x32_2).f1) ((rd_T46 ((rd_T41 l0 x9_1).f1) x32_2).f2) ((rd_T46 ((rd_T41 l0 x9_1).f1) x32_2).f3) true _ A54.out) ?_; rintro e w67 ⟨rfl, hb⟩; refine ⟨_, rfl, ?_⟩; refine cut3_ (blk_below (g := gb189) (o := .cells #[.string ((rd_T41 l0 x9_1).f0), .slice (some ad191) ((rd_T41 l0 x9_1).f1).length c188_1, .bool false, .slice A188_3 ((rd_T41 l0 x9_1).f3).length c188_3, .int .i64 ((rd_T41 l0 x9_1).f4)] 41 (0, 0)) (far4_ (bk_ BK189.out) NB189_192.out) hb) (blk_below (g := gb192) (o := .cells #[.int .i64 ((rd_T46 ((rd_T41 l0 x9_1).f1) x32_2).f0), .string ((rd_T46 ((rd_T41 l0 x9_1).f1) x32_2).f1), .int .i64 ((rd_T46 ((rd_T41 l0 x9_1).f1) x32_2).f2), .int .i64 ((rd_T46 ((rd_T41 l0 x9_1).f1) x32_2).f3)] 46 (0, 0)) (put4_ (bk_ BK192.out)) hb) (below_step (bl2_ HB.out GE189.out GE192.out) hb) ?_; clear hb BK189 BK192 HB; intro BK189 BK192 HB; obtain ⟨hcz68_0, hcz68_1, hcz68_2, hcz68_3, hfz68_0, hfz68_1, hfz68_2, hfz68_3⟩ := cq4_ BK192.out) | (go_at_call 36; (with_reducible refine (lexer_Valid.calls k2 ((rd_T46 ((rd_T41 l0 x9_1).f1) x32_2).f0) ((rd_T46 ((rd_T41 l0 x9_1).f1) x32_2).f1) ((rd_T46 ((rd_T41 l0 x9_1).f1) x32_2).f2) ((rd_T46 ((rd_T41 l0 x9_1).f1) x32_2).f3) false _ A56.out).mono ?_); rintro e w69 ⟨rfl, hb⟩; refine cut3_ (bb_ BK189.out hb) (bb_ BK192.out hb) (below_step (bl2_ HB.out GE189.out GE192.out) hb) ?_; clear BK189 BK192 HB; intro BK189 BK192 HB; (try clear hb); (try clear hb2); (try clear hk); (try clear hi)))
    go_ret
    exact ⟨er_, bl2_ HB.out GE189.out GE192.out⟩
   have H' := Aside0.mk H; clear H; have p191 : 0 ≤ (x32_2 : Int) := dt_; have q191 : x32_2 < (((rd_T41 l0 x9_1).f1).length : Int) := dt_; obtain ⟨ad191, e191, hx191_0, hx191_1, hx191_2, hx191_3⟩ := at_T46 HR188_1.out x32_2 p191 q191; cases e191; replace hx191_0 := pw_cell_below HB.out hx191_0; replace hx191_1 := pw_cell_below HB.out hx191_1; replace hx191_2 := pw_cell_below HB.out hx191_2; replace hx191_3 := pw_cell_below HB.out hx191_3; replace p191 := eq_true p191; replace q191 := eq_true q191
   go_wp2_with (first | ((with_reducible refine gate_dst (N := 6) rfl ?_); (try (refine gate_guard (by rfl) ?_; dsimp only)); refine bx_ (N := 6) (cs := #[.int .i64 0, .string (⟨#[]⟩ : ByteArray), .int .i64 0, .int .i64 0]) (t := 46) ?_; intro gb192 hg w58 hbox hb; refine cut7_ (bb_ BK189.out hb) (below_step (bl1_ HB.out GE189.out) hb) (hbox) (bz_ (w := w) hg (bl1_ HB.out GE189.out)) (bz_ (w := w) hg (bl1_ HB.out GE189.out)) (nl_ hg BK189.out) (ng_ hg BK189.out) ?_; clear BK189 HB; intro BK189 HB BK192 GW192 GE192 NB189_192 NB192_189; clear hb hbox hg; have hnb59 := NB192_189.out; have hnc59 := NB189_192.out; obtain ⟨hcz60_0, hcz60_1, hcz60_2, hcz60_3, hfz60_0, hfz60_1, hfz60_2, hfz60_3⟩ := cq4_ BK192.out) | ((with_reducible refine gate_callee (f := 85) rfl ?_); refine gk_ (some 37) Tryd.func85 (parser_atom.calls ((rd_T46 ((rd_T41 l0 x9_1).f1) x32_2).f0) ((rd_T46 ((rd_T41 l0 x9_1).f1) x32_2).f1) ((rd_T46 ((rd_T41 l0 x9_1).f1) x32_2).f2) ((rd_T46 ((rd_T41 l0 x9_1).f1) x32_2).f3) true _ A54.out) ?_; rintro e w61 ⟨rfl, hb⟩; refine ⟨_, rfl, ?_⟩; refine cut3_ (blk_below (g := gb189) (o := .cells #[.string ((rd_T41 l0 x9_1).f0), .slice (some ad191) ((rd_T41 l0 x9_1).f1).length c188_1, .bool false, .slice A188_3 ((rd_T41 l0 x9_1).f3).length c188_3, .int .i64 ((rd_T41 l0 x9_1).f4)] 41 (0, 0)) (far4_ (bk_ BK189.out) NB189_192.out) hb) (blk_below (g := gb192) (o := .cells #[.int .i64 ((rd_T46 ((rd_T41 l0 x9_1).f1) x32_2).f0), .string ((rd_T46 ((rd_T41 l0 x9_1).f1) x32_2).f1), .int .i64 ((rd_T46 ((rd_T41 l0 x9_1).f1) x32_2).f2), .int .i64 ((rd_T46 ((rd_T41 l0 x9_1).f1) x32_2).f3)] 46 (0, 0)) (put4_ (bk_ BK192.out)) hb) (below_step (bl2_ HB.out GE189.out GE192.out) hb) ?_; clear hb BK189 BK192 HB; intro BK189 BK192 HB; obtain ⟨hcz62_0, hcz62_1, hcz62_2, hcz62_3, hfz62_0, hfz62_1, hfz62_2, hfz62_3⟩ := cq4_ BK192.out) | (go_at_call 36; (with_reducible refine (lexer_Valid.calls k2 ((rd_T46 ((rd_T41 l0 x9_1).f1) x32_2).f0) ((rd_T46 ((rd_T41 l0 x9_1).f1) x32_2).f1) ((rd_T46 ((rd_T41 l0 x9_1).f1) x32_2).f2) ((rd_T46 ((rd_T41 l0 x9_1).f1) x32_2).f3) true _ A56.out).mono ?_); rintro e w63 ⟨rfl, hb⟩; refine cut3_ (bb_ BK189.out hb) (bb_ BK192.out hb) (below_step (bl2_ HB.out GE189.out GE192.out) hb) ?_; clear BK189 BK192 HB; intro BK189 BK192 HB; (try clear hb); (try clear hb2); (try clear hk); (try clear hi)))
   go_roundg k2
   case measure => have := HK1.out; have := HK2.out; omega
   case rel => exact ⟨(wrap64 (x32_2 + 1)), sr_, H', ⟨by have := HK1.out; have := HK2.out; omega⟩, ⟨bk_ BK189.out⟩, ⟨bl2_ HB.out GE189.out GE192.out⟩⟩
def parser_Check.f (k : Nat) (l0 : List (S41)) : Option (Int) := (parser_formed.f k l0).bind fun t196 => (if t196 = true then ((parser_Depth.f k l0).bind fun t197 => (if t197 > 8 then (some 6) else (some 0))) else (some 2))
theorem parser_Check.mono : ∀ a0 k, LeO (parser_Check.f k a0) (parser_Check.f (k + 1) a0) := by
 intro a0 k
 unfold parser_Check.f
 repeat' first
   | (with_reducible exact LeO.refl _)
   | exact parser_Depth.mono _ _
   | exact parser_formed.mono _ _
   | exact LeO.none _
   | refine LeO.ite ?_ ?_
   | refine LeO.bind ?_ (fun _ => ?_)
theorem parser_Check.calls (k : Nat) (A0 : Option Addr) (c0 : Nat) (l0 : List (S41)) (r : Int) (w : World) (hr0 : Kd.C k41 w A0 l0.length l0) (hc0 : l0.length ≤ c0) (h : parser_Check.f k l0 = some r) :
  Calls Tryd.prog 26 #[.slice A0 l0.length c0] w fun e w' => e = .returned (.int .i64 r) ∧ Below w.heap.size w w' := by
 have HR0 := Aside0.mk hr0; have HC0 := Aside0.mk hc0; clear hr0 hc0; have HB := Aside0.mk (Below.refl w.heap.size w); have H : ((parser_formed.f k l0).bind fun t196 => (if t196 = true then ((parser_Depth.f k l0).bind fun t197 => (if t197 > 8 then (some 6) else (some 0))) else (some 2))) = some r := h; clear h; replace H := bn_ H; obtain ⟨t196, A2, H⟩ := H; (try dsimp only at H); replace H := (sb_ H).symm; obtain ⟨rfl, H⟩ | ⟨rfl, H⟩ := H
 ·
  obtain rfl := Option.some.inj H
  go_enter Tryd.func26, Tryd.ntmps26
  go_wp2_with (first | ((with_reducible refine gate_callee (f := 56) rfl ?_); refine gk_ (some 5) Tryd.func56 (parser_formed.calls k _ _ l0 false _ ?side1 ?side2 A2.out) ?_; (case side1 => repeat (first | exact HR0.out | (with_reducible refine Kd.C_alloc ?_ _) | (with_reducible refine Kd.C_drewN ?_ _) | (with_reducible refine Kd.C_drew ?_))); (case side2 => exact HC0.out); rintro e w10 ⟨rfl, hb⟩; refine ⟨_, rfl, ?_⟩; refine cut1_ (below_step (bl_ HB.out) hb) ?_; clear hb HB; intro HB))
  go_ret
  exact ⟨er_, bl_ HB.out⟩
 replace H := bn_ H; obtain ⟨t197, A4, H⟩ := H; (try dsimp only at H); replace H := sd_ H; obtain ⟨c5b0, H⟩ | ⟨c5b0, H⟩ := H
 ·
  obtain rfl := Option.some.inj H
  go_enter Tryd.func26, Tryd.ntmps26
  go_wp2_with (first | ((with_reducible refine gate_callee (f := 56) rfl ?_); refine gk_ (some 5) Tryd.func56 (parser_formed.calls k _ _ l0 true _ ?side1 ?side2 A2.out) ?_; (case side1 => repeat (first | exact HR0.out | (with_reducible refine Kd.C_alloc ?_ _) | (with_reducible refine Kd.C_drewN ?_ _) | (with_reducible refine Kd.C_drew ?_))); (case side2 => exact HC0.out); rintro e w6 ⟨rfl, hb⟩; refine ⟨_, rfl, ?_⟩; refine cut1_ (below_step (bl_ HB.out) hb) ?_; clear hb HB; intro HB) | ((with_reducible refine gate_callee (f := 31) rfl ?_); refine gk_ (some 9) Tryd.func31 (parser_Depth.calls k _ _ l0 t197 _ ?side1 ?side2 A4.out) ?_; (case side1 => repeat (first | exact (Kd.C_below HR0.out HB.out) | (with_reducible refine Kd.C_alloc ?_ _) | (with_reducible refine Kd.C_drewN ?_ _) | (with_reducible refine Kd.C_drew ?_))); (case side2 => exact HC0.out); rintro e w7 ⟨rfl, hb⟩; refine ⟨_, rfl, ?_⟩; refine cut1_ (below_step (bl_ HB.out) hb) ?_; clear hb HB; intro HB))
  go_ret
  exact ⟨er_, bl_ HB.out⟩
 obtain rfl := Option.some.inj H
 go_enter Tryd.func26, Tryd.ntmps26
 go_wp2_with (first | ((with_reducible refine gate_callee (f := 56) rfl ?_); refine gk_ (some 5) Tryd.func56 (parser_formed.calls k _ _ l0 true _ ?side1 ?side2 A2.out) ?_; (case side1 => repeat (first | exact HR0.out | (with_reducible refine Kd.C_alloc ?_ _) | (with_reducible refine Kd.C_drewN ?_ _) | (with_reducible refine Kd.C_drew ?_))); (case side2 => exact HC0.out); rintro e w8 ⟨rfl, hb⟩; refine ⟨_, rfl, ?_⟩; refine cut1_ (below_step (bl_ HB.out) hb) ?_; clear hb HB; intro HB) | ((with_reducible refine gate_callee (f := 31) rfl ?_); refine gk_ (some 9) Tryd.func31 (parser_Depth.calls k _ _ l0 t197 _ ?side1 ?side2 A4.out) ?_; (case side1 => repeat (first | exact (Kd.C_below HR0.out HB.out) | (with_reducible refine Kd.C_alloc ?_ _) | (with_reducible refine Kd.C_drewN ?_ _) | (with_reducible refine Kd.C_drew ?_))); (case side2 => exact HC0.out); rintro e w9 ⟨rfl, hb⟩; refine ⟨_, rfl, ?_⟩; refine cut1_ (below_step (bl_ HB.out) hb) ?_; clear hb HB; intro HB))
 go_ret
 exact ⟨er_, bl_ HB.out⟩
mutual
def parser_Count.l0 : Nat → Int → List (S41) → Int → Int → Option (Int)
 | 0, _, _, _, _ => none
 | k + 1, x3, x8, x9, x10 => if x10 < x9 then (if 0 ≤ x10 then (if x10 < (x8.length : Int) then ((parser_Count.f k ((rd_T41 x8 x10).f3)).bind fun t200 => (parser_Count.l0 k (wrap64 (x3 + t200)) x8 x9 (wrap64 (x10 + 1)))) else (none)) else (none)) else (some x3)
def parser_Count.f : Nat → List (S41) → Option (Int)
 | 0, _ => none
 | k + 1, l0 => parser_Count.l0 k (l0.length : Int) l0 (l0.length : Int) 0
end
theorem parser_Count.mono_l : ∀ k, (∀ y0, LeO (parser_Count.f k y0) (parser_Count.f (k + 1) y0)) ∧ (∀ y0 y1 y2 y3, LeO (parser_Count.l0 k y0 y1 y2 y3) (parser_Count.l0 (k + 1) y0 y1 y2 y3))
 | 0 => ⟨fun _ r h => by simp [parser_Count.f] at h, fun _ _ _ _ r h => by simp [parser_Count.l0] at h⟩
 | k + 1 => by
  obtain ⟨ih0, ih1⟩ := parser_Count.mono_l k
  refine ⟨?_, ?_⟩
  ·
   intro y0
   unfold parser_Count.f
   repeat' first
   | (with_reducible exact LeO.refl _)
   | exact ih0 _
   | exact ih1 _ _ _ _
   | exact LeO.none _
   | refine LeO.ite ?_ ?_
   | refine LeO.bind ?_ (fun _ => ?_)
  ·
   intro y0 y1 y2 y3
   unfold parser_Count.l0
   repeat' first
   | (with_reducible exact LeO.refl _)
   | exact ih0 _
   | exact ih1 _ _ _ _
   | exact LeO.none _
   | refine LeO.ite ?_ ?_
   | refine LeO.bind ?_ (fun _ => ?_)
theorem parser_Count.mono : ∀ a0 k, LeO (parser_Count.f k a0) (parser_Count.f (k + 1) a0) := by
 intro a0 k
 obtain ⟨ih0, ih1⟩ := parser_Count.mono_l k
 exact ih0 a0
theorem parser_Count.calls (k : Nat) : ∀ (A0 : Option Addr) (c0 : Nat) (l0 : List (S41)) (r : Int) (w : World) (hr0 : Kd.C k41 w A0 l0.length l0) (hc0 : l0.length ≤ c0) (h : parser_Count.f k l0 = some r),
  Calls Tryd.prog 30 #[.slice A0 l0.length c0] w fun e w' => e = .returned (.int .i64 r) ∧ Below w.heap.size w w' := by
 induction k using Nat.strongRecOn with
 | _ k ih =>
 intro A0 c0 l0 r w hr0 hc0 h
 cases k with
 | zero => exact absurd h (by simp [parser_Count.f])
 | succ k =>
 simp only [parser_Count.f] at h; have hu41 := Tryd.underlying41; have HR0 := Aside0.mk hr0; have HC0 := Aside0.mk hc0; clear hr0 hc0; have HB := Aside0.mk (Below.refl w.heap.size w); have H : (parser_Count.l0 k (l0.length : Int) l0 (l0.length : Int) 0) = some r := h; clear h; have H' := Aside0.mk H; clear H
 go_enter Tryd.func30, Tryd.ntmps30
 go_wp2
 go_loopg [3, 10] k (fun kq v3 v10 w' => ∃ (x3_1 : Int) (x10_1 : Int), v3 = .int .i64 x3_1 ∧ v10 = .int .i64 x10_1 ∧ Aside0 (parser_Count.l0 kq x3_1 l0 (l0.length : Int) x10_1 = some r) ∧ Aside0 (kq ≤ k) ∧ Aside0 (Below w.heap.size w w'))
 case atStart => exact ⟨((l0.length : Int)), (0), sr_, sr_, H', ⟨Nat.le_refl _⟩, ⟨bl_ HB.out⟩⟩
 case round =>
  clear H'; obtain ⟨x3_1, x10_1, rfl, rfl, HA, HK1, HB⟩ := hrel; obtain _ | k1 := gk
  · exact absurd HA.out (by simp [parser_Count.l0])
  have H := HA.out; clear HA; simp only [parser_Count.l0] at H; replace H := (sd_ H).symm; obtain ⟨c2b0, H⟩ | ⟨c2b0, H⟩ := H
  ·
   obtain rfl := Option.some.inj H
   go_wp2
   go_ret
   exact ⟨er_, bl_ HB.out⟩
  replace H := gd_ H; obtain ⟨c3b0, H⟩ := H; replace H := gd_ H; obtain ⟨c4b0, H⟩ := H; replace H := bn_ H; obtain ⟨t200, A5, H⟩ := H; (try dsimp only at H); have H' := Aside0.mk H; clear H; have p198 : 0 ≤ (x10_1 : Int) := dt_; have q198 : x10_1 < (l0.length : Int) := dt_; obtain ⟨ad198, A198_1, c198_1, A198_3, c198_3, e198, hx198_0, hx198_1, hx198_2, hx198_3, hx198_4, hl198_1, hi198_1, hl198_3, hi198_3⟩ := at_T41 HR0.out x10_1 p198 q198; cases e198; replace hx198_0 := pw_cell_below HB.out hx198_0; replace hx198_1 := pw_cell_below HB.out hx198_1; replace hx198_2 := pw_cell_below HB.out hx198_2; replace hx198_3 := pw_cell_below HB.out hx198_3; replace hx198_4 := pw_cell_below HB.out hx198_4; have HR198_1 := Aside0.mk hi198_1; have HC198_1 := Aside0.mk hl198_1; clear hi198_1 hl198_1; have HR198_3 := Aside0.mk hi198_3; have HC198_3 := Aside0.mk hl198_3; clear hi198_3 hl198_3; replace p198 := eq_true p198; replace q198 := eq_true q198
  go_wp2_with (first | ((with_reducible refine gate_dst (N := 5) rfl ?_); refine bx_ (N := 5) (cs := #[.string (⟨#[]⟩ : ByteArray), .slice none 0 0, .bool false, .slice none 0 0, .int .i64 0]) (t := 41) ?_; intro gb199 hg w6 hbox hb; refine cut4_ (below_step (bl_ HB.out) hb) (hbox) (bz_ (w := w) hg (bl_ HB.out)) (bz_ (w := w) hg (bl_ HB.out)) ?_; clear HB; intro HB BK199 GW199 GE199; clear hb hbox hg; obtain ⟨hcz7_0, hcz7_1, hcz7_2, hcz7_3, hcz7_4, hfz7_0, hfz7_1, hfz7_2, hfz7_3, hfz7_4⟩ := cq5_ BK199.out) | ((with_reducible refine gate_callee (f := 30) rfl ?_); refine gk_ (some 17) Tryd.func30 (ih k1 (by have := HK1.out; omega) _ _ ((rd_T41 l0 x10_1).f3) t200 _ ?side1 ?side2 A5.out) ?_; (case side1 => exact Kd.C_below HR198_3.out (bl1_ HB.out GE199.out)); (case side2 => exact HC198_3.out); rintro e w8 ⟨rfl, hb⟩; refine ⟨_, rfl, ?_⟩; refine cut2_ (blk_below (g := gb199) (o := .cells #[.string ((rd_T41 l0 x10_1).f0), .slice A198_1 ((rd_T41 l0 x10_1).f1).length c198_1, .bool ((rd_T41 l0 x10_1).f2), .slice A198_3 ((rd_T41 l0 x10_1).f3).length c198_3, .int .i64 ((rd_T41 l0 x10_1).f4)] 41 (0, 0)) (put5_ (bk_ BK199.out)) hb) (below_step (bl1_ HB.out GE199.out) hb) ?_; clear hb BK199 HB; intro BK199 HB))
  go_roundg k1
  case measure => have := HK1.out; omega
  case rel => exact ⟨(wrap64 (x3_1 + t200)), (wrap64 (x10_1 + 1)), sr_, sr_, H', ⟨om_ HK1.out⟩, ⟨bl1_ HB.out GE199.out⟩⟩
end Go.Proofs.YtkifdadhojbohaaDoor.Pr
