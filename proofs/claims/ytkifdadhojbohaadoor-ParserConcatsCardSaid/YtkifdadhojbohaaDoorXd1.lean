/- Joined out of the texts of this proof that bear the names PrF5 PwIc RowParserConcats: what each shows stands over it there. -/
import Derived.Test.YtkifdadhojbohaaDoorXk1
import Derived.Test.YtkifdadhojbohaaDoorXa1
import Derived.Test.YtkifdadhojbohaaDoorXt1
import Derived.Test.YtkifdadhojbohaaDoorXs1
import Derived.Test.YtkifdadhojbohaaDoorXp1
import Derived.Test.YtkifdadhojbohaaDoorXr1
import Derived.Test.YtkifdadhojbohaaDoorCards
import Derived.Test.YtkifdadhojbohaaDoorTie
import Derived.WalkKit
import Derived.OpenShut
import Derived.ShutString
import Derived.ChangeOld
import Derived.SizedLaws
import Derived.SevenTiedAt
import Derived.Handed
import Derived.LaidLaws
set_option linter.unusedVariables false
set_option linter.unusedSimpArgs false
namespace Go.Proofs.YtkifdadhojbohaaDoor.Pr
open Go.Proofs.YtkifdadhojbohaaDoor
open Go.RowKit Go.Proofs.YtkifdadhojbohaaDoorW.PrintWords Go.Proofs.YtkifdadhojbohaaDoorW.PrintLast Go.Proofs.YtkifdadhojbohaaDoorW.PrintMore
attribute [local go_sem] max2_int min2_int max_two min_two max_three min_three max_four min_four   -- for this text's walks alone
set_option linter.unusedVariables false
set_option linter.unusedSimpArgs false
/-! ### salchowlaw10_ParserConcats: function 5 -/
mutual
def salchowlaw10_ParserConcats.j0 : Nat → ByteArray → ByteArray → Bool → Option (Bool)
 | 0, _, _, _ => none
 | k + 1, x0, x1, x21 => if x21 = true then (some true) else ((parser_Parse.f k x0).bind fun bt170 => ((parser_Parse.f k x1).bind fun bt176 => (if bt170.2.1 = 0 then (salchowlaw10_ParserConcats.j1 k x0 x1 bt170.1 bt176.1 (bt176.2.1 != 0)) else (salchowlaw10_ParserConcats.j1 k x0 x1 bt170.1 bt176.1 true))))
def salchowlaw10_ParserConcats.j1 : Nat → ByteArray → ByteArray → List (S41) → List (S41) → Bool → Option (Bool)
 | 0, _, _, _, _, _ => none
 | k + 1, x0, x1, x5, x7, x39 => if x39 = true then (some true) else (if x0.size + 1 ≤ 9223372036854775807 then (if (x0 ++ (⟨#[10]⟩ : ByteArray)).size + x1.size ≤ 9223372036854775807 then ((parser_Parse.f k ((x0 ++ (⟨#[10]⟩ : ByteArray)) ++ x1)).bind fun bt182 => ((some (([] : List (S41)) : List (S41))).bind fun y188 => (if y188.length + x5.length < 1759218604441 then ((some (y188 ++ x5 : List (S41))).bind fun y191 => (if y191.length + x7.length < 1759218604441 then ((some (y191 ++ x7 : List (S41))).bind fun y194 => (if bt182.2.1 = 0 then ((pSame.f k bt182.1 y194).bind fun t197 => (if t197 = true then ((parser_Count.f k y194).bind fun t198 => ((parser_Count.f k x5).bind fun t199 => ((parser_Count.f k x7).bind fun t200 => (if t198 = (wrap64 (t199 + t200)) then ((parser_Depth.f k y194).bind fun t201 => ((parser_Depth.f k x5).bind fun t202 => ((parser_Depth.f k x7).bind fun t203 => (some (t201 == (mx t202 t203)))))) else (some false))))) else (some false))) else (some false))) else (none))) else (none)))) else (none)) else (none))
end
def salchowlaw10_ParserConcats.f (k : Nat) (a0 : ByteArray) (a1 : ByteArray) : Option (Bool) := (salchowlaw10_awake.f k).bind fun t169 => (if t169 = true then (if (a0.size : Int) > 700 then (salchowlaw10_ParserConcats.j0 k a0 a1 true) else (salchowlaw10_ParserConcats.j0 k a0 a1 (decide ((a1.size : Int) > 700)))) else (some false))
theorem salchowlaw10_ParserConcats.mono_l : ∀ k, (∀ y0 y1 y2, LeO (salchowlaw10_ParserConcats.j0 k y0 y1 y2) (salchowlaw10_ParserConcats.j0 (k + 1) y0 y1 y2)) ∧ (∀ y0 y1 y2 y3 y4, LeO (salchowlaw10_ParserConcats.j1 k y0 y1 y2 y3 y4) (salchowlaw10_ParserConcats.j1 (k + 1) y0 y1 y2 y3 y4))
 | 0 => ⟨fun _ _ _ r h => by simp [salchowlaw10_ParserConcats.j0] at h, fun _ _ _ _ _ r h => by simp [salchowlaw10_ParserConcats.j1] at h⟩
 | k + 1 => by
  obtain ⟨ih0, ih1⟩ := salchowlaw10_ParserConcats.mono_l k
  refine ⟨?_, ?_⟩
  ·
   intro y0 y1 y2
   unfold salchowlaw10_ParserConcats.j0
   repeat' first
   | (with_reducible exact LeO.refl _)
   | exact ih0 _ _ _
   | exact ih1 _ _ _ _ _
   | exact pSame.mono _ _ _
   | exact parser_Count.mono _ _
   | exact parser_Depth.mono _ _
   | exact parser_Parse.mono _ _
   | exact salchowlaw10_awake.mono _
   | exact LeO.none _
   | refine LeO.ite ?_ ?_
   | refine LeO.bind ?_ (fun _ => ?_)
  ·
   intro y0 y1 y2 y3 y4
   unfold salchowlaw10_ParserConcats.j1
   repeat' first
   | (with_reducible exact LeO.refl _)
   | exact ih0 _ _ _
   | exact ih1 _ _ _ _ _
   | exact pSame.mono _ _ _
   | exact parser_Count.mono _ _
   | exact parser_Depth.mono _ _
   | exact parser_Parse.mono _ _
   | exact salchowlaw10_awake.mono _
   | exact LeO.none _
   | refine LeO.ite ?_ ?_
   | refine LeO.bind ?_ (fun _ => ?_)
theorem salchowlaw10_ParserConcats.mono : ∀ a0 a1 k, LeO (salchowlaw10_ParserConcats.f k a0 a1) (salchowlaw10_ParserConcats.f (k + 1) a0 a1) := by
 intro a0 a1 k
 obtain ⟨ih0, ih1⟩ := salchowlaw10_ParserConcats.mono_l k
 unfold salchowlaw10_ParserConcats.f
 repeat' first
   | (with_reducible exact LeO.refl _)
   | exact ih0 _ _ _
   | exact ih1 _ _ _ _ _
   | exact pSame.mono _ _ _
   | exact parser_Count.mono _ _
   | exact parser_Depth.mono _ _
   | exact parser_Parse.mono _ _
   | exact salchowlaw10_awake.mono _
   | exact LeO.none _
   | refine LeO.ite ?_ ?_
   | refine LeO.bind ?_ (fun _ => ?_)
set_option maxHeartbeats 8000000 in
set_option maxRecDepth 100000 in
theorem salchowlaw10_ParserConcats.calls (k : Nat) (a0 : ByteArray) (a1 : ByteArray) (r : Bool) (w : World) (h : salchowlaw10_ParserConcats.f k a0 a1 = some r) :
  Calls Tryd.prog 5 #[.string a0, .string a1] w fun e w' => e = .returned (.bool r) ∧ Below w.heap.size w w' := by
 have hu26 := Tryd.underlying26
 have HB := Aside0.mk (Below.refl w.heap.size w)
 have H : ((salchowlaw10_awake.f k).bind fun t169 => (if t169 = true then (if (a0.size : Int) > 700 then (salchowlaw10_ParserConcats.j0 k a0 a1 true) else (salchowlaw10_ParserConcats.j0 k a0 a1 (decide ((a1.size : Int) > 700)))) else (some false))) = some r := h
 clear h
 replace H := Option.bind_eq_some_iff.mp H
 obtain ⟨t169, A30, H⟩ := H
 (try dsimp only at H)
 have A3 := Aside0.mk A30
 clear A30
 by_cases c4 : t169 = true
 ·
  subst c4
  have H1 : (if (a0.size : Int) > 700 then (salchowlaw10_ParserConcats.j0 k a0 a1 true) else (salchowlaw10_ParserConcats.j0 k a0 a1 (decide ((a1.size : Int) > 700)))) = some r := by rw [if_pos rfl] at H; exact H
  clear H
  have H := H1
  clear H1
  have HC5 := Aside0.mk H
  clear H
  go_enter Tryd.func5, Tryd.ntmps5
  go_upto_region 3 with (first | ((with_reducible refine gate_callee (f := 21) rfl ?_); refine goesL_ (some 12) rfl rfl Tryd.func21 (by kernel_rfl) rfl #[] rfl ga_ ?_; (with_reducible refine (salchowlaw10_awake.calls k  true _ A3.out).mono ?_); rintro e w6 ⟨rfl, hb⟩; refine ⟨_, rfl, ?_⟩; have n0_ := Aside0.mk (below_step (bl_ HB.out) hb); clear HB; have HB := n0_; clear n0_; (try clear hb); (try clear hb2); (try clear hk); (try clear hi)))
  (try simp only [Act.put, List.setIfInBounds_toArray, List.set_cons_zero, List.set_cons_succ])
  go_cut [21] (fun v21 wc => ∃ (kq : Nat) (x21_4 : Bool), v21 = .bool x21_4 ∧ Aside0 (salchowlaw10_ParserConcats.j0 kq a0 a1 x21_4 = some r) ∧ Aside0 (kq ≤ k) ∧ Aside0 (Below w.heap.size w wc))
  case first =>
   have H := HC5.out
   clear HC5
   by_cases c7 : (a0.size : Int) > 700
   ·
    rw [if_pos c7] at H
    have c7b0 := decide_eq_true c7
    have c7b1 : decide (700 < a0.size) = true := decide_eq_true (by omega)
    clear c7
    (first | rw [c7b0] | (simp only [i64_w, i32_w]; rw [c7b0]) | skip)
    have H' := Aside0.mk H
    clear H
    go_wp2
    go_meet
    case rel => exact ⟨_, (true), sr_, H', ⟨by first | omega | exact Nat.le_refl _⟩, ⟨bl_ HB.out⟩⟩
   ·
    rw [if_neg c7] at H
    have c7b0 := decide_eq_false c7
    have c7b1 : decide (700 < a0.size) = false := decide_eq_false (by omega)
    clear c7
    (first | rw [c7b0] | (simp only [i64_w, i32_w]; rw [c7b0]) | skip)
    have H' := Aside0.mk H
    clear H
    go_wp2
    go_meet
    case rel => exact ⟨_, (decide ((a1.size : Int) > 700)), sr_, H', ⟨by first | omega | exact Nat.le_refl _⟩, ⟨bl_ HB.out⟩⟩
  case rest =>
   clear HC5
   try clear c2
   try clear p2
   try clear c4
   try clear c5
   try clear c7
   try clear c7b0
   try clear c7b1
   obtain ⟨kq, x21_4, rfl, HA, HJ4, HB⟩ := hcut
   cases kq with
   | zero => exact absurd HA.out (by simp [salchowlaw10_ParserConcats.j0])
   | succ kj4 =>
    have H := HA.out
    clear HA
    simp only [salchowlaw10_ParserConcats.j0] at H
    by_cases c8 : x21_4 = true
    ·
     subst c8
     have H1 : (some true) = some r := by rw [if_pos rfl] at H; exact H
     clear H
     have H := H1
     clear H1
     obtain rfl := Option.some.inj H
     go_wp2
     go_ret
     exact ⟨er_, bl_ HB.out⟩
    ·
     replace c8 := Bool.eq_false_iff.mpr c8
     subst c8
     have H1 : ((parser_Parse.f kj4 a0).bind fun bt170 => ((parser_Parse.f kj4 a1).bind fun bt176 => (if bt170.2.1 = 0 then (salchowlaw10_ParserConcats.j1 kj4 a0 a1 bt170.1 bt176.1 (bt176.2.1 != 0)) else (salchowlaw10_ParserConcats.j1 kj4 a0 a1 bt170.1 bt176.1 true)))) = some r := by rw [if_neg (show ¬ (false = true) by decide)] at H; exact H
     clear H
     have H := H1
     clear H1
     replace H := Option.bind_eq_some_iff.mp H
     obtain ⟨⟨t170, t173, t174⟩, A90, H⟩ := H
     (try dsimp only at H)
     have A9 := Aside0.mk A90
     clear A90
     replace H := Option.bind_eq_some_iff.mp H
     obtain ⟨⟨t176, t179, t180⟩, A100, H⟩ := H
     (try dsimp only at H)
     have A10 := Aside0.mk A100
     clear A100
     have HC11 := Aside0.mk H
     clear H
     go_upto_region 7 with (first | ((with_reducible refine gate_callee (f := 22) rfl ?_); refine goesL_ (some 24) rfl rfl Tryd.func22 (by kernel_rfl) rfl #[.string a0] rfl ga_ ?_; (with_reducible refine (parser_Parse.calls kj4 a0 t170 t173 t174 _ A9.out).mono ?_); rintro e w12 ⟨v171, rfl, ho0, hb⟩; refine ⟨_, rfl, ?_⟩; have n0_ := Aside0.mk (Kd.N_lower (Kd.N_mono (ok' := fun k_ => True) (Kd.R_N (Kd.R_bound ho0)) (fun k_ hk_ => trivial)) (below_size (bl_ HB.out))); have n1_ := Aside0.mk (below_step (bl_ HB.out) hb); clear HB; have HO172 := n0_; have HB := n1_; clear n0_ n1_; (try clear hb); (try clear hb2); (try clear hk); (try clear hi); (try clear ho0)) | ((with_reducible refine gate_dst (N := 6) rfl ?_); (try (refine gate_guard (by rfl) ?_; dsimp only)); refine bx_ (N := 6) (cs := #[.int .i64 0, .int .i64 0]) (t := 26) ?_; intro gb175 hg w13 hbox hb; have n0_ := Aside0.mk (Kd.N_below (Kd.N_elderB (rN_ HO172.out) gb175 (Nat.le_of_eq hg.symm)) hb); have n1_ := Aside0.mk (below_step (bl_ HB.out) hb); have n2_ := Aside0.mk (hbox); have n3_ := Aside0.mk (bz_ (w := w) hg (bl_ HB.out)); have n4_ := Aside0.mk (bz_ (w := w) hg (bl_ HB.out)); clear HO172; clear HB; have HO172 := n0_; have HB := n1_; have BK175 := n2_; have GW175 := n3_; have GE175 := n4_; clear n0_ n1_ n2_ n3_ n4_; clear hb hbox hg; obtain ⟨hcz14_0, hcz14_1, hfz14_0, hfz14_1⟩ := cq2_ BK175.out) | ((with_reducible refine gate_callee (f := 22) rfl ?_); refine goesL_ (some 29) rfl rfl Tryd.func22 (by kernel_rfl) rfl #[.string a1] rfl ga_ ?_; (with_reducible refine (parser_Parse.calls kj4 a1 t176 t179 t180 _ A10.out).mono ?_); rintro e w15 ⟨v177, rfl, ho0, hb⟩; refine ⟨_, rfl, ?_⟩; have n0_ := Aside0.mk (Kd.N_elder' (by (with_reducible repeat (first | apply Kd.N_alloc | apply Kd.N_drewN | apply Kd.N_drew)); exact (Kd.N_mono (Kd.N_far (p := ⟨gb175, 1, none⟩) (Kd.N_far (p := ⟨gb175, 0, none⟩) (Kd.N_mono HO172.out (fun k_ hk => (⟨hk, hk.2⟩ : _ ∧ k_ ≠ gb175))) (fun _ hk => hk.2) (.int .i64 t173)) (fun _ hk => hk.2) (.int .i64 t174)) (fun _ h_ => h_.1))) (Kd.N_base (Kd.R_N (Kd.R_bound ho0))) hb); have n1_ := Aside0.mk (Kd.N_lower (Kd.N_mono (ok' := fun k_ => some k_ ≠ (v171 : Value).ownBlock ∧ k_ ≠ gb175) (Kd.R_N (Kd.R_bound ho0)) (fun k_ hk_ => ⟨(Kd.fresh' (Kd.N_lt (by (with_reducible repeat (first | apply Kd.N_alloc | apply Kd.N_drewN | apply Kd.N_drew)); exact (Kd.N_mono (Kd.N_far (p := ⟨gb175, 1, none⟩) (Kd.N_far (p := ⟨gb175, 0, none⟩) (Kd.N_mono HO172.out (fun k_ hk => (⟨hk, hk.2⟩ : _ ∧ k_ ≠ gb175))) (fun _ hk => hk.2) (.int .i64 t173)) (fun _ hk => hk.2) (.int .i64 t174)) (fun _ h_ => h_.1)))) k_ hk_.2.1), (Kd.freshB (g := gb175) (o := .cells #[.int .i64 t173, .int .i64 t174] 26 (0, 0)) (by exact put2_ (bk_ BK175.out)) k_ hk_.2.1)⟩)) (below_size (bl1_ HB.out GE175.out))); have n2_ := Aside0.mk (blk_below (g := gb175) (o := .cells #[.int .i64 t173, .int .i64 t174] 26 (0, 0)) (put2_ (bk_ BK175.out)) hb); have n3_ := Aside0.mk (below_step (bl1_ HB.out GE175.out) hb); clear HO172; clear BK175; clear HB; have HO172 := n0_; have HO178 := n1_; have BK175 := n2_; have HB := n3_; clear n0_ n1_ n2_ n3_; (try clear hb); (try clear hb2); (try clear hk); (try clear hi); (try clear ho0)) | ((with_reducible refine gate_dst (N := 8) rfl ?_); (try (refine gate_guard (by rfl) ?_; dsimp only)); refine bx_ (N := 8) (cs := #[.int .i64 0, .int .i64 0]) (t := 26) ?_; intro gb181 hg w16 hbox hb; have n0_ := Aside0.mk (Kd.N_below (Kd.N_elderB (rN_ HO172.out) gb181 (Nat.le_of_eq hg.symm)) hb); have n1_ := Aside0.mk (Kd.N_below (Kd.N_elderB (rN_ HO178.out) gb181 (Nat.le_of_eq hg.symm)) hb); have n2_ := Aside0.mk (bb_ BK175.out hb); have n3_ := Aside0.mk (below_step (bl1_ HB.out GE175.out) hb); have n4_ := Aside0.mk (hbox); have n5_ := Aside0.mk (bz_ (w := w) hg (bl1_ HB.out GE175.out)); have n6_ := Aside0.mk (bz_ (w := w) hg (bl1_ HB.out GE175.out)); have n7_ := Aside0.mk (nl_ hg BK175.out); have n8_ := Aside0.mk (ng_ hg BK175.out); clear HO172; clear HO178; clear BK175; clear HB; have HO172 := n0_; have HO178 := n1_; have BK175 := n2_; have HB := n3_; have BK181 := n4_; have GW181 := n5_; have GE181 := n6_; have NB175_181 := n7_; have NB181_175 := n8_; clear n0_ n1_ n2_ n3_ n4_ n5_ n6_ n7_ n8_; clear hb hbox hg; have hnb17 := NB181_175.out; have hnc17 := NB175_181.out; obtain ⟨hcz18_0, hcz18_1, hfz18_0, hfz18_1⟩ := cq2_ BK181.out))
     (try simp only [Act.put, List.setIfInBounds_toArray, List.set_cons_zero, List.set_cons_succ])
     go_cut [39] (fun v39 wc => ∃ (kq : Nat) (x39_10 : Bool), v39 = .bool x39_10 ∧ Aside0 (salchowlaw10_ParserConcats.j1 kq a0 a1 t170 t176 x39_10 = some r) ∧ Aside0 (kq ≤ kj4) ∧ Aside0 (Kd.N k41 41 wc w.heap.size (fun k_ => some k_ ≠ (v177 : Value).ownBlock ∧ k_ ≠ gb175 ∧ k_ ≠ gb181) v171 t170) ∧ Aside0 (Kd.N k41 41 wc w.heap.size (fun k_ => some k_ ≠ (v171 : Value).ownBlock ∧ k_ ≠ gb175 ∧ k_ ≠ gb181) v177 t176) ∧ Aside0 (wc.heap[gb175]? = some (.cells #[.int .i64 t173, .int .i64 t174] 26 (0, 0))) ∧ Aside0 (wc.heap[gb181]? = some (.cells #[.int .i64 t179, .int .i64 t180] 26 (0, 0))) ∧ Aside0 (Below w.heap.size w wc))
     case first =>
      have H := HC11.out
      clear HC11
      by_cases c19 : t173 = 0
      ·
       rw [if_pos c19] at H
       have c19b0 := beq_iff_eq.mpr c19
       have c19b1 := bne_eq_false_iff_eq.mpr c19
       clear c19
       (first | rw [c19b0] | (simp only [i64_w, i32_w]; rw [c19b0]) | skip)
       have H' := Aside0.mk H
       clear H
       have hnb20 := NB175_181.out
       have hnc20 := NB181_175.out
       have hcz21_0 := cz_ (.int .i64 t173) BK175.out 0
       have hcz21_1 := cz_ (.int .i64 t174) BK175.out 1
       have hfz21_0 := blk_frozen BK175.out 0
       have hfz21_1 := blk_frozen BK175.out 1
       have hcz22_0 := cz_ (.int .i64 0) BK181.out 0
       have hcz22_1 := cz_ (.int .i64 0) BK181.out 1
       have hfz22_0 := blk_frozen BK181.out 0
       have hfz22_1 := blk_frozen BK181.out 1
       go_wp2
       go_meet
       case rel => exact ⟨_, ((t179 != 0)), sr_, H', ⟨by have := HJ4.out; first | omega | exact Nat.le_refl _⟩, ⟨by (with_reducible repeat (first | apply Kd.N_alloc | apply Kd.N_drewN | apply Kd.N_drew)); exact Kd.N_mono (Kd.N_far (p := ⟨gb181, 1, none⟩) (Kd.N_far (p := ⟨gb181, 0, none⟩) (Kd.N_mono HO172.out (fun k_ hk => (⟨hk, hk.2⟩ : _ ∧ k_ ≠ gb181))) (fun _ hk => hk.2) (.int .i64 t179)) (fun _ hk => hk.2) (.int .i64 t180)) (fun _ hk => ⟨hk.1.1.2, ⟨hk.1.1.1.2, hk.1.2⟩⟩)⟩, ⟨by (with_reducible repeat (first | apply Kd.N_alloc | apply Kd.N_drewN | apply Kd.N_drew)); exact Kd.N_mono (Kd.N_far (p := ⟨gb181, 1, none⟩) (Kd.N_far (p := ⟨gb181, 0, none⟩) (Kd.N_mono HO178.out (fun k_ hk => (⟨hk, hk.2⟩ : _ ∧ k_ ≠ gb181))) (fun _ hk => hk.2) (.int .i64 t179)) (fun _ hk => hk.2) (.int .i64 t180)) (fun _ hk => ⟨hk.1.1.1, ⟨hk.1.1.2, hk.1.2⟩⟩)⟩, ⟨by exact far2_ (bk_ BK175.out) NB175_181.out⟩, ⟨by exact put2_ (bk_ BK181.out)⟩, ⟨bl2_ HB.out GE175.out GE181.out⟩⟩
      ·
       rw [if_neg c19] at H
       have c19b0 := beq_eq_false_iff_ne.mpr c19
       have c19b1 := bne_iff_ne.mpr c19
       (first | rw [c19b0] | (simp only [i64_w, i32_w]; rw [c19b0]) | skip)
       have H' := Aside0.mk H
       clear H
       have hnb23 := NB175_181.out
       have hnc23 := NB181_175.out
       have hcz24_0 := cz_ (.int .i64 t173) BK175.out 0
       have hcz24_1 := cz_ (.int .i64 t174) BK175.out 1
       have hfz24_0 := blk_frozen BK175.out 0
       have hfz24_1 := blk_frozen BK175.out 1
       go_wp2
       go_meet
       case rel => exact ⟨_, (true), sr_, H', ⟨by have := HJ4.out; first | omega | exact Nat.le_refl _⟩, ⟨by (with_reducible repeat (first | apply Kd.N_alloc | apply Kd.N_drewN | apply Kd.N_drew)); exact Kd.N_mono (Kd.N_far (p := ⟨gb181, 1, none⟩) (Kd.N_far (p := ⟨gb181, 0, none⟩) (Kd.N_mono HO172.out (fun k_ hk => (⟨hk, hk.2⟩ : _ ∧ k_ ≠ gb181))) (fun _ hk => hk.2) (.int .i64 t179)) (fun _ hk => hk.2) (.int .i64 t180)) (fun _ hk => ⟨hk.1.1.2, ⟨hk.1.1.1.2, hk.1.2⟩⟩)⟩, ⟨by (with_reducible repeat (first | apply Kd.N_alloc | apply Kd.N_drewN | apply Kd.N_drew)); exact Kd.N_mono (Kd.N_far (p := ⟨gb181, 1, none⟩) (Kd.N_far (p := ⟨gb181, 0, none⟩) (Kd.N_mono HO178.out (fun k_ hk => (⟨hk, hk.2⟩ : _ ∧ k_ ≠ gb181))) (fun _ hk => hk.2) (.int .i64 t179)) (fun _ hk => hk.2) (.int .i64 t180)) (fun _ hk => ⟨hk.1.1.1, ⟨hk.1.1.2, hk.1.2⟩⟩)⟩, ⟨by exact far2_ (bk_ BK175.out) NB175_181.out⟩, ⟨by exact put2_ (bk_ BK181.out)⟩, ⟨bl2_ HB.out GE175.out GE181.out⟩⟩
     case rest =>
      clear HC11
      try clear c1
      try clear c2
      try clear p2
      try clear c4
      try clear c5
      try clear c7
      try clear c7b0
      try clear c7b1
      try clear c8
      try clear c17
      try clear c19
      try clear c19b0
      try clear c19b1
      try clear c20
      try clear c21
      try clear c22
      try clear c23
      try clear hcz14_0
      try clear hcz14_1
      try clear hcz18_0
      try clear hcz18_1
      try clear hcz21_0
      try clear hcz21_1
      try clear hcz22_0
      try clear hcz22_1
      try clear hcz24_0
      try clear hcz24_1
      try clear hfz14_0
      try clear hfz14_1
      try clear hfz18_0
      try clear hfz18_1
      try clear hfz21_0
      try clear hfz21_1
      try clear hfz22_0
      try clear hfz22_1
      try clear hfz24_0
      try clear hfz24_1
      try clear p2
      obtain ⟨kq, x39_10, rfl, HA, HJ10, HO_5, HO_7, BK175, BK181, HB⟩ := hcut
      cases kq with
      | zero => exact absurd HA.out (by simp [salchowlaw10_ParserConcats.j1])
      | succ kj10 =>
       have H := HA.out
       clear HA
       simp only [salchowlaw10_ParserConcats.j1] at H
       by_cases c25 : x39_10 = true
       ·
        subst c25
        have H1 : (some true) = some r := by rw [if_pos rfl] at H; exact H
        clear H
        have H := H1
        clear H1
        obtain rfl := Option.some.inj H
        go_wp2
        go_ret
        exact ⟨er_, bl2_ HB.out GE175.out GE181.out⟩
       ·
        replace c25 := Bool.eq_false_iff.mpr c25
        subst c25
        have H1 : (if a0.size + 1 ≤ 9223372036854775807 then (if (a0 ++ (⟨#[10]⟩ : ByteArray)).size + a1.size ≤ 9223372036854775807 then ((parser_Parse.f kj10 ((a0 ++ (⟨#[10]⟩ : ByteArray)) ++ a1)).bind fun bt182 => ((some (([] : List (S41)) : List (S41))).bind fun y188 => (if y188.length + t170.length < 1759218604441 then ((some (y188 ++ t170 : List (S41))).bind fun y191 => (if y191.length + t176.length < 1759218604441 then ((some (y191 ++ t176 : List (S41))).bind fun y194 => (if bt182.2.1 = 0 then ((pSame.f kj10 bt182.1 y194).bind fun t197 => (if t197 = true then ((parser_Count.f kj10 y194).bind fun t198 => ((parser_Count.f kj10 t170).bind fun t199 => ((parser_Count.f kj10 t176).bind fun t200 => (if t198 = (wrap64 (t199 + t200)) then ((parser_Depth.f kj10 y194).bind fun t201 => ((parser_Depth.f kj10 t170).bind fun t202 => ((parser_Depth.f kj10 t176).bind fun t203 => (some (t201 == (mx t202 t203)))))) else (some false))))) else (some false))) else (some false))) else (none))) else (none)))) else (none)) else (none)) = some r := by rw [if_neg (show ¬ (false = true) by decide)] at H; exact H
        clear H
        have H := H1
        clear H1
        by_cases c26 : a0.size + 1 ≤ 9223372036854775807
        ·
         rw [if_pos c26] at H
         have c26b0 := eq_true c26
         have c26b1 := decide_eq_true c26
         try have c26b2 : (9223372036854775807 < a0.size + 1) = False := eq_false (Nat.not_lt.2 c26)
         by_cases c27 : (a0 ++ (⟨#[10]⟩ : ByteArray)).size + a1.size ≤ 9223372036854775807
         ·
          rw [if_pos c27] at H
          have c27b0 := eq_true c27
          have c27b1 := decide_eq_true c27
          (try (have c27b3 : (9223372036854775807 < a0.size + 1 + a1.size) = False := eq_false (Nat.not_lt.2 (by have h_ := c27; simp only [ByteArray.size_append] at h_; exact h_))))
          (try (have c27b4 : (a0.size + 1 + a1.size ≤ 9223372036854775807) = True := eq_true (by have h_ := c27; simp only [ByteArray.size_append] at h_; exact h_)))
          try have c27b2 : (9223372036854775807 < (a0 ++ (⟨#[10]⟩ : ByteArray)).size + a1.size) = False := eq_false (Nat.not_lt.2 c27)
          replace H := Option.bind_eq_some_iff.mp H
          obtain ⟨⟨t182, t185, t186⟩, A280, H⟩ := H
          (try dsimp only at H)
          have A28 := Aside0.mk A280
          clear A280
          obtain ⟨y188, hy188⟩ : ∃ y_ : List (S41), y_ = (([] : List (S41))) := ⟨_, rfl⟩
          replace H : (if y188.length + t170.length < 1759218604441 then ((some (y188 ++ t170 : List (S41))).bind fun y191 => (if y191.length + t176.length < 1759218604441 then ((some (y191 ++ t176 : List (S41))).bind fun y194 => (if t185 = 0 then ((pSame.f kj10 t182 y194).bind fun t197 => (if t197 = true then ((parser_Count.f kj10 y194).bind fun t198 => ((parser_Count.f kj10 t170).bind fun t199 => ((parser_Count.f kj10 t176).bind fun t200 => (if t198 = (wrap64 (t199 + t200)) then ((parser_Depth.f kj10 y194).bind fun t201 => ((parser_Depth.f kj10 t170).bind fun t202 => ((parser_Depth.f kj10 t176).bind fun t203 => (some (t201 == (mx t202 t203)))))) else (some false))))) else (some false))) else (some false))) else (none))) else (none)) = some r := by first | (rw [hy188]; with_reducible exact H) | (have H2_ := (Option.bind_some _ _).symm.trans H; rw [hy188]; with_reducible exact H2_) | (have H2_ := (Option.bind_some _ _).symm.trans H; with_reducible exact H2_) | with_reducible exact H | (rw [hy188]; exact H) | exact H
          have Ny188 := Aside0.mk hy188
          clear hy188
          by_cases c29 : y188.length + t170.length < 1759218604441
          ·
           rw [if_pos c29] at H
           have LMc29 := Aside0.mk c29
           clear c29
           obtain ⟨y191, hy191⟩ : ∃ y_ : List (S41), y_ = (y188 ++ t170) := ⟨_, rfl⟩
           replace H : (if y191.length + t176.length < 1759218604441 then ((some (y191 ++ t176 : List (S41))).bind fun y194 => (if t185 = 0 then ((pSame.f kj10 t182 y194).bind fun t197 => (if t197 = true then ((parser_Count.f kj10 y194).bind fun t198 => ((parser_Count.f kj10 t170).bind fun t199 => ((parser_Count.f kj10 t176).bind fun t200 => (if t198 = (wrap64 (t199 + t200)) then ((parser_Depth.f kj10 y194).bind fun t201 => ((parser_Depth.f kj10 t170).bind fun t202 => ((parser_Depth.f kj10 t176).bind fun t203 => (some (t201 == (mx t202 t203)))))) else (some false))))) else (some false))) else (some false))) else (none)) = some r := by first | (rw [hy191]; with_reducible exact H) | (have H2_ := (Option.bind_some _ _).symm.trans H; rw [hy191]; with_reducible exact H2_) | (have H2_ := (Option.bind_some _ _).symm.trans H; with_reducible exact H2_) | with_reducible exact H | (rw [hy191]; exact H) | exact H
           have Ny191 := Aside0.mk hy191
           clear hy191
           by_cases c30 : y191.length + t176.length < 1759218604441
           ·
            rw [if_pos c30] at H
            have LMc30 := Aside0.mk c30
            clear c30
            obtain ⟨y194, hy194⟩ : ∃ y_ : List (S41), y_ = (y191 ++ t176) := ⟨_, rfl⟩
            replace H : (if t185 = 0 then ((pSame.f kj10 t182 y194).bind fun t197 => (if t197 = true then ((parser_Count.f kj10 y194).bind fun t198 => ((parser_Count.f kj10 t170).bind fun t199 => ((parser_Count.f kj10 t176).bind fun t200 => (if t198 = (wrap64 (t199 + t200)) then ((parser_Depth.f kj10 y194).bind fun t201 => ((parser_Depth.f kj10 t170).bind fun t202 => ((parser_Depth.f kj10 t176).bind fun t203 => (some (t201 == (mx t202 t203)))))) else (some false))))) else (some false))) else (some false)) = some r := by first | (rw [hy194]; with_reducible exact H) | (have H2_ := (Option.bind_some _ _).symm.trans H; rw [hy194]; with_reducible exact H2_) | (have H2_ := (Option.bind_some _ _).symm.trans H; with_reducible exact H2_) | with_reducible exact H | (rw [hy194]; exact H) | exact H
            have Ny194 := Aside0.mk hy194
            clear hy194
            by_cases c31 : t185 = 0
            ·
             rw [if_pos c31] at H
             have c31b0 := beq_iff_eq.mpr c31
             have c31b1 := bne_eq_false_iff_eq.mpr c31
             clear c31
             replace H := Option.bind_eq_some_iff.mp H
             obtain ⟨t197, A320, H⟩ := H
             (try dsimp only at H)
             have A32 := Aside0.mk A320
             clear A320
             by_cases c33 : t197 = true
             ·
              subst c33
              have H1 : ((parser_Count.f kj10 y194).bind fun t198 => ((parser_Count.f kj10 t170).bind fun t199 => ((parser_Count.f kj10 t176).bind fun t200 => (if t198 = (wrap64 (t199 + t200)) then ((parser_Depth.f kj10 y194).bind fun t201 => ((parser_Depth.f kj10 t170).bind fun t202 => ((parser_Depth.f kj10 t176).bind fun t203 => (some (t201 == (mx t202 t203)))))) else (some false))))) = some r := by rw [if_pos rfl] at H; exact H
              clear H
              have H := H1
              clear H1
              replace H := Option.bind_eq_some_iff.mp H
              obtain ⟨t198, A340, H⟩ := H
              (try dsimp only at H)
              have A34 := Aside0.mk A340
              clear A340
              replace H := Option.bind_eq_some_iff.mp H
              obtain ⟨t199, A350, H⟩ := H
              (try dsimp only at H)
              have A35 := Aside0.mk A350
              clear A350
              replace H := Option.bind_eq_some_iff.mp H
              obtain ⟨t200, A360, H⟩ := H
              (try dsimp only at H)
              have A36 := Aside0.mk A360
              clear A360
              by_cases c37 : t198 = (wrap64 (t199 + t200))
              ·
               rw [if_pos c37] at H
               have c37b0 := beq_iff_eq.mpr c37
               have c37b1 := bne_eq_false_iff_eq.mpr c37
               clear c37
               replace H := Option.bind_eq_some_iff.mp H
               obtain ⟨t201, A380, H⟩ := H
               (try dsimp only at H)
               have A38 := Aside0.mk A380
               clear A380
               replace H := Option.bind_eq_some_iff.mp H
               obtain ⟨t202, A390, H⟩ := H
               (try dsimp only at H)
               have A39 := Aside0.mk A390
               clear A390
               replace H := Option.bind_eq_some_iff.mp H
               obtain ⟨t203, A400, H⟩ := H
               (try dsimp only at H)
               have A40 := Aside0.mk A400
               clear A400
               obtain ⟨ji41, hji41⟩ : ∃ j_ : Int, (mx t202 t203) = j_ := ⟨_, rfl⟩
               replace H : (some (t201 == (ji41))) = some r := by first | (rw [hji41] at H; exact H) | (simp only [hji41] at H ⊢; exact H)
               (try rw [hji41] at A28)
               (try rw [hji41] at A32)
               (try rw [hji41] at A34)
               (try rw [hji41] at A35)
               (try rw [hji41] at A36)
               (try rw [hji41] at A38)
               (try rw [hji41] at A39)
               (try rw [hji41] at A40)
               have hji41_ : (if t202 < t203 then t203 else t202) = ji41 := hji41
               obtain rfl := Option.some.inj H
               go_wp2_with (first | ((with_reducible refine gate_callee (f := 22) rfl ?_); refine goesL_ (some 45) rfl rfl Tryd.func22 (by kernel_rfl) rfl #[.string ((a0 ++ (⟨#[10]⟩ : ByteArray)) ++ a1)] rfl ga_ ?_; (with_reducible refine (parser_Parse.calls kj10 ((a0 ++ (⟨#[10]⟩ : ByteArray)) ++ a1) t182 t185 t186 _ A28.out).mono ?_); rintro e w42 ⟨v183, rfl, ho0, hb⟩; refine ⟨_, rfl, ?_⟩; refine cut6_ (Kd.N_elder' (rN_ HO_5.out) (Kd.N_base (Kd.R_N (Kd.R_bound ho0))) hb) (Kd.N_elder' (rN_ HO_7.out) (Kd.N_base (Kd.R_N (Kd.R_bound ho0))) hb) (Kd.N_lower (Kd.N_mono (ok' := fun k_ => some k_ ≠ (v171 : Value).ownBlock ∧ some k_ ≠ (v177 : Value).ownBlock ∧ k_ ≠ gb175 ∧ k_ ≠ gb181) (Kd.R_N (Kd.R_bound ho0)) (fun k_ hk_ => ⟨(Kd.fresh' (Kd.N_lt (rN_ HO_5.out)) k_ hk_.2.1), (Kd.fresh' (Kd.N_lt (rN_ HO_7.out)) k_ hk_.2.1), (Kd.freshB (g := gb175) (o := .cells #[.int .i64 t173, .int .i64 t174] 26 (0, 0)) (bk_ BK175.out) k_ hk_.2.1), (Kd.freshB (g := gb181) (o := .cells #[.int .i64 t179, .int .i64 t180] 26 (0, 0)) (bk_ BK181.out) k_ hk_.2.1)⟩)) (below_size (bl2_ HB.out GE175.out GE181.out))) (bb_ BK175.out hb) (bb_ BK181.out hb) (below_step (bl2_ HB.out GE175.out GE181.out) hb) ?_; clear HO_5 HO_7 BK175 BK181 HB; intro HO_5 HO_7 HO184 BK175 BK181 HB; (try clear hb); (try clear hb2); (try clear hk); (try clear hi); (try clear ho0)) | ((with_reducible refine gate_dst (N := 10) rfl ?_); (try (refine gate_guard (by rfl) ?_; dsimp only)); refine bx_ (N := 10) (cs := #[.int .i64 0, .int .i64 0]) (t := 26) ?_; intro gb187 hg w43 hbox hb; refine cut13_ (Kd.N_below (Kd.N_elderB (rN_ HO_5.out) gb187 (Nat.le_of_eq hg.symm)) hb) (Kd.N_below (Kd.N_elderB (rN_ HO_7.out) gb187 (Nat.le_of_eq hg.symm)) hb) (Kd.N_below (Kd.N_elderB (rN_ HO184.out) gb187 (Nat.le_of_eq hg.symm)) hb) (bb_ BK175.out hb) (bb_ BK181.out hb) (below_step (bl2_ HB.out GE175.out GE181.out) hb) (hbox) (bz_ (w := w) hg (bl2_ HB.out GE175.out GE181.out)) (bz_ (w := w) hg (bl2_ HB.out GE175.out GE181.out)) (nl_ hg BK175.out) (ng_ hg BK175.out) (nl_ hg BK181.out) (ng_ hg BK181.out) ?_; clear HO_5 HO_7 HO184 BK175 BK181 HB; intro HO_5 HO_7 HO184 BK175 BK181 HB BK187 GW187 GE187 NB175_187 NB187_175 NB181_187 NB187_181; clear hb hbox hg; have hnb44 := NB187_175.out; have hnc44 := NB175_187.out; have hnb45 := NB187_181.out; have hnc45 := NB181_187.out; obtain ⟨hcz46_0, hcz46_1, hfz46_0, hfz46_1⟩ := cq2_ BK187.out) | ((with_reducible refine gate_store (t := 26) (p := 10) rfl ?_); refine store_event (t := 26) (p := 10) (v := ?vo_w47) (w1 := ((w43.setCell ⟨gb187, 0, none⟩ (.int .i64 t185)).setCell ⟨gb187, 1, none⟩ (.int .i64 t186))) ?hg ?ho ?hn ?hr ?_; (case ho => rfl); (case hg => rfl); (case hn => rfl); (case hr => first | (go_simp; done) | (go_simp; rfl)); intro w47 hw; have n0_ : Aside0 (Kd.N k41 41 w47 w.heap.size (fun k_ => some k_ ≠ (v177 : Value).ownBlock ∧ some k_ ≠ (v183 : Value).ownBlock ∧ k_ ≠ gb175 ∧ k_ ≠ gb181 ∧ k_ ≠ gb187) v171 t170) := ⟨(by rw [hw]; exact (by (with_reducible repeat (first | apply Kd.N_alloc | apply Kd.N_drewN | apply Kd.N_drew)); exact Kd.N_mono (Kd.N_far (p := ⟨gb187, 1, none⟩) (Kd.N_far (p := ⟨gb187, 0, none⟩) (Kd.N_mono HO_5.out (fun k_ hk => (⟨hk, hk.2⟩ : _ ∧ k_ ≠ gb187))) (fun _ hk => hk.2) (.int .i64 t185)) (fun _ hk => hk.2) (.int .i64 t186)) (fun _ hk => ⟨hk.1.1.1.1, ⟨hk.1.1.2, ⟨hk.1.1.1.2.1, ⟨hk.1.1.1.2.2, hk.1.2⟩⟩⟩⟩)))⟩; have n1_ : Aside0 (Kd.N k41 41 w47 w.heap.size (fun k_ => some k_ ≠ (v171 : Value).ownBlock ∧ some k_ ≠ (v183 : Value).ownBlock ∧ k_ ≠ gb175 ∧ k_ ≠ gb181 ∧ k_ ≠ gb187) v177 t176) := ⟨(by rw [hw]; exact (by (with_reducible repeat (first | apply Kd.N_alloc | apply Kd.N_drewN | apply Kd.N_drew)); exact Kd.N_mono (Kd.N_far (p := ⟨gb187, 1, none⟩) (Kd.N_far (p := ⟨gb187, 0, none⟩) (Kd.N_mono HO_7.out (fun k_ hk => (⟨hk, hk.2⟩ : _ ∧ k_ ≠ gb187))) (fun _ hk => hk.2) (.int .i64 t185)) (fun _ hk => hk.2) (.int .i64 t186)) (fun _ hk => ⟨hk.1.1.1.1, ⟨hk.1.1.2, ⟨hk.1.1.1.2.1, ⟨hk.1.1.1.2.2, hk.1.2⟩⟩⟩⟩)))⟩; have n2_ : Aside0 (Kd.N k41 41 w47 w.heap.size (fun k_ => some k_ ≠ (v171 : Value).ownBlock ∧ some k_ ≠ (v177 : Value).ownBlock ∧ k_ ≠ gb175 ∧ k_ ≠ gb181 ∧ k_ ≠ gb187) v183 t182) := ⟨(by rw [hw]; exact (by (with_reducible repeat (first | apply Kd.N_alloc | apply Kd.N_drewN | apply Kd.N_drew)); exact Kd.N_mono (Kd.N_far (p := ⟨gb187, 1, none⟩) (Kd.N_far (p := ⟨gb187, 0, none⟩) (Kd.N_mono HO184.out (fun k_ hk => (⟨hk, hk.2⟩ : _ ∧ k_ ≠ gb187))) (fun _ hk => hk.2) (.int .i64 t185)) (fun _ hk => hk.2) (.int .i64 t186)) (fun _ hk => ⟨hk.1.1.1, ⟨hk.1.1.2.1, ⟨hk.1.1.2.2.1, ⟨hk.1.1.2.2.2, hk.1.2⟩⟩⟩⟩)))⟩; have n3_ : Aside0 (w47.heap[gb175]? = some (.cells #[.int .i64 t173, .int .i64 t174] 26 (0, 0))) := ⟨(by rw [hw]; exact (by exact far2_ (bk_ BK175.out) NB175_187.out))⟩; have n4_ : Aside0 (w47.heap[gb181]? = some (.cells #[.int .i64 t179, .int .i64 t180] 26 (0, 0))) := ⟨(by rw [hw]; exact (by exact far2_ (bk_ BK181.out) NB181_187.out))⟩; have n5_ : Aside0 (w47.heap[gb187]? = some (.cells #[.int .i64 t185, .int .i64 t186] 26 (0, 0))) := ⟨(by rw [hw]; exact (by exact put2_ (bk_ BK187.out)))⟩; have n6_ : Aside0 (Below w.heap.size w w47) := ⟨(by rw [hw]; exact (bl3_ HB.out GE175.out GE181.out GE187.out))⟩; clear hw; clear HO_5; clear HO_7; clear HO184; clear BK175; clear BK181; clear BK187; clear HB; have HO_5 := n0_; have HO_7 := n1_; have HO184 := n2_; have BK175 := n3_; have BK181 := n4_; have BK187 := n5_; have HB := n6_; clear n0_ n1_ n2_ n3_ n4_ n5_ n6_) | ((with_reducible refine gate_dst (N := 48) rfl ?_); (try (refine gate_guard (by rfl) ?_; dsimp only)); refine Kd.N_lit k41 _ 41 ?hg (N' := 48) ?hd (xs := ([] : List (S41))) (inner := []) (ok := (fun k_ => some k_ ≠ (v171 : Value).ownBlock ∧ some k_ ≠ (v177 : Value).ownBlock ∧ some k_ ≠ (v183 : Value).ownBlock ∧ k_ ≠ gb175 ∧ k_ ≠ gb181 ∧ k_ ≠ gb187)) (okp := (fun k_ => some k_ ≠ (v171 : Value).ownBlock ∧ some k_ ≠ (v177 : Value).ownBlock ∧ some k_ ≠ (v183 : Value).ownBlock ∧ k_ ≠ gb175 ∧ k_ ≠ gb181 ∧ k_ ≠ gb187)) ?hr ?hp (fun _ hk => hk) ((show ∀ k_, w47.heap.size ≤ k_ → (fun k_ => some k_ ≠ (v171 : Value).ownBlock ∧ some k_ ≠ (v177 : Value).ownBlock ∧ some k_ ≠ (v183 : Value).ownBlock ∧ k_ ≠ gb175 ∧ k_ ≠ gb181 ∧ k_ ≠ gb187) k_ from fun k_ hk => ⟨Kd.fresh' (Kd.N_lt (rN_ HO_5.out)) k_ hk, Kd.fresh' (Kd.N_lt (rN_ HO_7.out)) k_ hk, Kd.fresh' (Kd.N_lt (rN_ HO184.out)) k_ hk, Kd.freshB (g := gb175) (o := .cells #[.int .i64 t173, .int .i64 t174] 26 (0, 0)) (bk_ BK175.out) k_ hk, Kd.freshB (g := gb181) (o := .cells #[.int .i64 t179, .int .i64 t180] 26 (0, 0)) (bk_ BK181.out) k_ hk, Kd.freshB (g := gb187) (o := .cells #[.int .i64 t185, .int .i64 t186] 26 (0, 0)) (bk_ BK187.out) k_ hk⟩) _ (Nat.le_refl _)) (Below.refl _ _) (Nat.le_refl _) (by simp) ?_; (case hd => rfl); (case hg => rfl); (case hr => first | (go_simp; done) | (go_simp; rfl)); (case hp => exact (Reps.none _ _)); intro v189 w48 ho49 hb hg_ hnew_; clear hg_ hnew_; (first | rw [← Ny188.out] at ho49 | (simp only [Int.reduceToNat] at ho49; rw [← Ny188.out] at ho49)); refine cut8_ (Kd.N_elder' (rN_ HO_5.out) (Kd.N_base ho49) hb) (Kd.N_elder' (rN_ HO_7.out) (Kd.N_base ho49) hb) (Kd.N_elder' (rN_ HO184.out) (Kd.N_base ho49) hb) (Kd.N_lower ho49 (below_size (bl3_ HB.out GE175.out GE181.out GE187.out))) (bb_ BK175.out hb) (bb_ BK181.out hb) (bb_ BK187.out hb) (below_step (bl3_ HB.out GE175.out GE181.out GE187.out) hb) ?_; clear HO_5 HO_7 HO184 BK175 BK181 BK187 HB; intro HO_5 HO_7 HO184 HO190 BK175 BK181 BK187 HB; clear hb ho49; obtain ⟨Ao51, co51, eo51⟩ := Kd.N_slice HO_5.out; subst eo51) | ((with_reducible refine gate_builtin (b := .append) (xs := #[.tmp 48, .tmp 49]) rfl ?_); (try (refine gate_guard (by rfl) ?_; dsimp only)); at_builtin; refine Kd.N_append_rows k41 (w0 := w) w.heap.size rfl (.tmp 48) (.tmp 49) 23 41 (.agg #[(.string ⟨#[]⟩), (.slice none 0 0), (.bool false), (.slice none 0 0), (.int .i64 0)]) 80 rfl Tryd.underlying23 info41 rfl (by decide) (by omega) v189 y188 t170 _ _ _ (fun k_ => some k_ ≠ (v177 : Value).ownBlock ∧ some k_ ≠ (v183 : Value).ownBlock ∧ k_ ≠ gb175 ∧ k_ ≠ gb181 ∧ k_ ≠ gb187) (fun k_ => ((fun k_ => some k_ ≠ (v177 : Value).ownBlock ∧ some k_ ≠ (v183 : Value).ownBlock ∧ k_ ≠ gb175 ∧ k_ ≠ gb181 ∧ k_ ≠ gb187)) k_ ∧ some k_ ≠ (v189 : Value).ownBlock) rfl rfl ?aO ?aR (fun _ hk => hk) ?aF ?aB ?aS ?aL ?_; (case aR => exact (by skip; exact Kd.N_F (Kd.N_mono (ok' := (fun k_ => ((fun k_ => some k_ ≠ (v177 : Value).ownBlock ∧ some k_ ≠ (v183 : Value).ownBlock ∧ k_ ≠ gb175 ∧ k_ ≠ gb181 ∧ k_ ≠ gb187)) k_ ∧ some k_ ≠ (v189 : Value).ownBlock)) (HO_5.out) (fun k_ hk => ⟨⟨hk.1.1, ⟨hk.1.2.1, ⟨hk.1.2.2.1, ⟨hk.1.2.2.2.1, hk.1.2.2.2.2⟩⟩⟩⟩, hk.2⟩)))); (case aB => exact (bl3_ HB.out GE175.out GE181.out GE187.out)); (case aF => exact (fun k_ hk => ⟨Kd.fresh' (Kd.N_lt (rN_ HO_7.out)) k_ hk, Kd.fresh' (Kd.N_lt (rN_ HO184.out)) k_ hk, Kd.freshB (g := gb175) (o := .cells #[.int .i64 t173, .int .i64 t174] 26 (0, 0)) (bk_ BK175.out) k_ hk, Kd.freshB (g := gb181) (o := .cells #[.int .i64 t179, .int .i64 t180] 26 (0, 0)) (bk_ BK181.out) k_ hk, Kd.freshB (g := gb187) (o := .cells #[.int .i64 t185, .int .i64 t186] 26 (0, 0)) (bk_ BK187.out) k_ hk⟩)); (case aO => exact (by (with_reducible repeat (first | apply Kd.N_alloc | apply Kd.N_drewN | apply Kd.N_drew)); exact Kd.N_mono HO190.out (fun _ hk => ⟨hk.2.1, ⟨hk.2.2.1, ⟨hk.2.2.2.1, ⟨hk.2.2.2.2.1, hk.2.2.2.2.2⟩⟩⟩⟩))); (case aS => exact (below_size (bl3_ HB.out GE175.out GE181.out GE187.out))); (case aL => have := LMc29.out; omega); intro v192 w50 ho hb hg hat; rw [← Ny191.out] at ho; refine cut8_ (Kd.N_afterv (ok := (fun k_ => some k_ ≠ (v177 : Value).ownBlock ∧ some k_ ≠ (v183 : Value).ownBlock ∧ k_ ≠ gb175 ∧ k_ ≠ gb181 ∧ k_ ≠ gb187)) (rN_ HO_5.out) hg hat) (Kd.N_afterv (ok := (fun k_ => some k_ ≠ (.slice Ao51 t170.length co51 : Value).ownBlock ∧ some k_ ≠ (v183 : Value).ownBlock ∧ k_ ≠ gb175 ∧ k_ ≠ gb181 ∧ k_ ≠ gb187)) (rN_ HO_7.out) hg hat) (blk_grown (g := gb175) (o := .cells #[.int .i64 t173, .int .i64 t174] 26 (0, 0)) (bk_ BK175.out) hg (Kd.N_ne HO190.out BK175.out (by decide))) (blk_grown (g := gb181) (o := .cells #[.int .i64 t179, .int .i64 t180] 26 (0, 0)) (bk_ BK181.out) hg (Kd.N_ne HO190.out BK181.out (by decide))) (Kd.N_afterv (ok := (fun k_ => some k_ ≠ (.slice Ao51 t170.length co51 : Value).ownBlock ∧ some k_ ≠ (v177 : Value).ownBlock ∧ k_ ≠ gb175 ∧ k_ ≠ gb181 ∧ k_ ≠ gb187)) (rN_ HO184.out) hg hat) (blk_grown (g := gb187) (o := .cells #[.int .i64 t185, .int .i64 t186] 26 (0, 0)) (bk_ BK187.out) hg (Kd.N_ne HO190.out BK187.out (by decide))) (hb) (ho) ?_; clear HO_5 HO_7 BK175 BK181 HO184 BK187 HB HO190; intro HO_5 HO_7 BK175 BK181 HO184 BK187 HB HO193; clear ho hb hg hat; obtain ⟨Ao53, co53, eo53⟩ := Kd.N_slice HO_7.out; subst eo53) | ((with_reducible refine gate_builtin (b := .append) (xs := #[.tmp 50, .tmp 51]) rfl ?_); (try (refine gate_guard (by rfl) ?_; dsimp only)); at_builtin; refine Kd.N_append_rows k41 (w0 := w) w.heap.size rfl (.tmp 50) (.tmp 51) 23 41 (.agg #[(.string ⟨#[]⟩), (.slice none 0 0), (.bool false), (.slice none 0 0), (.int .i64 0)]) 80 rfl Tryd.underlying23 info41 rfl (by decide) (by omega) v192 y191 t176 _ _ _ (fun k_ => some k_ ≠ (v183 : Value).ownBlock ∧ k_ ≠ gb175 ∧ k_ ≠ gb181 ∧ k_ ≠ gb187) (fun k_ => ((fun k_ => some k_ ≠ (v183 : Value).ownBlock ∧ k_ ≠ gb175 ∧ k_ ≠ gb181 ∧ k_ ≠ gb187)) k_ ∧ some k_ ≠ (v192 : Value).ownBlock) rfl rfl ?aO ?aR (fun _ hk => hk) ?aF ?aB ?aS ?aL ?_; (case aR => exact (by skip; exact Kd.N_F (Kd.N_mono (ok' := (fun k_ => ((fun k_ => some k_ ≠ (v183 : Value).ownBlock ∧ k_ ≠ gb175 ∧ k_ ≠ gb181 ∧ k_ ≠ gb187)) k_ ∧ some k_ ≠ (v192 : Value).ownBlock)) (HO_7.out) (fun k_ hk => ⟨⟨hk.1.2.1, ⟨hk.1.2.2.1, ⟨hk.1.2.2.2.1, hk.1.2.2.2.2⟩⟩⟩, hk.2⟩)))); (case aB => exact (bl3_ HB.out GE175.out GE181.out GE187.out)); (case aF => exact (fun k_ hk => ⟨Kd.fresh' (Kd.N_lt (rN_ HO184.out)) k_ hk, Kd.freshB (g := gb175) (o := .cells #[.int .i64 t173, .int .i64 t174] 26 (0, 0)) (bk_ BK175.out) k_ hk, Kd.freshB (g := gb181) (o := .cells #[.int .i64 t179, .int .i64 t180] 26 (0, 0)) (bk_ BK181.out) k_ hk, Kd.freshB (g := gb187) (o := .cells #[.int .i64 t185, .int .i64 t186] 26 (0, 0)) (bk_ BK187.out) k_ hk⟩)); (case aO => exact (by (with_reducible repeat (first | apply Kd.N_alloc | apply Kd.N_drewN | apply Kd.N_drew)); exact Kd.N_mono HO193.out (fun _ hk => ⟨hk.2.1, ⟨hk.2.2.1, ⟨hk.2.2.2.1, hk.2.2.2.2⟩⟩⟩))); (case aS => exact (below_size (bl3_ HB.out GE175.out GE181.out GE187.out))); (case aL => have := LMc30.out; omega); intro v195 w52 ho hb hg hat; rw [← Ny194.out] at ho; refine cut8_ (Kd.N_afterv (ok := (fun k_ => some k_ ≠ (.slice Ao53 t176.length co53 : Value).ownBlock ∧ some k_ ≠ (v183 : Value).ownBlock ∧ k_ ≠ gb175 ∧ k_ ≠ gb181 ∧ k_ ≠ gb187)) (rN_ HO_5.out) hg hat) (Kd.N_afterv (ok := (fun k_ => some k_ ≠ (.slice Ao51 t170.length co51 : Value).ownBlock ∧ some k_ ≠ (v183 : Value).ownBlock ∧ k_ ≠ gb175 ∧ k_ ≠ gb181 ∧ k_ ≠ gb187)) (rN_ HO_7.out) hg hat) (blk_grown (g := gb175) (o := .cells #[.int .i64 t173, .int .i64 t174] 26 (0, 0)) (bk_ BK175.out) hg (Kd.N_ne HO193.out BK175.out (by decide))) (blk_grown (g := gb181) (o := .cells #[.int .i64 t179, .int .i64 t180] 26 (0, 0)) (bk_ BK181.out) hg (Kd.N_ne HO193.out BK181.out (by decide))) (Kd.N_afterv (ok := (fun k_ => some k_ ≠ (.slice Ao51 t170.length co51 : Value).ownBlock ∧ some k_ ≠ (.slice Ao53 t176.length co53 : Value).ownBlock ∧ k_ ≠ gb175 ∧ k_ ≠ gb181 ∧ k_ ≠ gb187)) (rN_ HO184.out) hg hat) (blk_grown (g := gb187) (o := .cells #[.int .i64 t185, .int .i64 t186] 26 (0, 0)) (bk_ BK187.out) hg (Kd.N_ne HO193.out BK187.out (by decide))) (hb) (ho) ?_; clear HO_5 HO_7 BK175 BK181 HO184 BK187 HB HO193; intro HO_5 HO_7 BK175 BK181 HO184 BK187 HB HO196; clear ho hb hg hat; obtain ⟨hcz54_0, hcz54_1, hfz54_0, hfz54_1⟩ := cq2_ BK187.out; obtain ⟨Ao55, co55, eo55⟩ := Kd.N_slice HO184.out; subst eo55; obtain ⟨Ao56, co56, eo56⟩ := Kd.N_slice HO196.out; subst eo56) | (go_at_call 29; (with_reducible refine (pSame.calls kj10 _ _ t182 _ _ y194 true _ ?side1 ?side2 ?side3 ?side4 A32.out).mono ?_); (case side1 => repeat (first | exact (Kd.N_reads' HO184.out).2.2 | (with_reducible refine Kd.C_alloc ?_ _) | (with_reducible refine Kd.C_drewN ?_ _) | (with_reducible refine Kd.C_drew ?_))); (case side2 => exact (Kd.N_reads' HO184.out).2.1); (case side3 => repeat (first | exact (Kd.N_reads' HO196.out).2.2 | (with_reducible refine Kd.C_alloc ?_ _) | (with_reducible refine Kd.C_drewN ?_ _) | (with_reducible refine Kd.C_drew ?_))); (case side4 => exact (Kd.N_reads' HO196.out).2.1); rintro e w57 ⟨rfl, hb⟩; refine cut8_ (Kd.N_below (rN_ HO_5.out) hb) (Kd.N_below (rN_ HO_7.out) hb) (Kd.N_below (rN_ HO184.out) hb) (Kd.N_below (rN_ HO196.out) hb) (bb_ BK175.out hb) (bb_ BK181.out hb) (bb_ BK187.out hb) (below_step (bl3_ HB.out GE175.out GE181.out GE187.out) hb) ?_; clear HO_5 HO_7 HO184 HO196 BK175 BK181 BK187 HB; intro HO_5 HO_7 HO184 HO196 BK175 BK181 BK187 HB; (try clear hb); (try clear hb2); (try clear hk); (try clear hi)) | (go_at_call 30; (with_reducible refine (parser_Count.calls kj10 _ _ y194 t198 _ ?side1 ?side2 A34.out).mono ?_); (case side1 => repeat (first | exact (Kd.N_reads' HO196.out).2.2 | (with_reducible refine Kd.C_alloc ?_ _) | (with_reducible refine Kd.C_drewN ?_ _) | (with_reducible refine Kd.C_drew ?_))); (case side2 => exact (Kd.N_reads' HO196.out).2.1); rintro e w58 ⟨rfl, hb⟩; refine cut8_ (Kd.N_below (rN_ HO_5.out) hb) (Kd.N_below (rN_ HO_7.out) hb) (Kd.N_below (rN_ HO184.out) hb) (Kd.N_below (rN_ HO196.out) hb) (bb_ BK175.out hb) (bb_ BK181.out hb) (bb_ BK187.out hb) (below_step (bl3_ HB.out GE175.out GE181.out GE187.out) hb) ?_; clear HO_5 HO_7 HO184 HO196 BK175 BK181 BK187 HB; intro HO_5 HO_7 HO184 HO196 BK175 BK181 BK187 HB; (try clear hb); (try clear hb2); (try clear hk); (try clear hi)) | (go_at_call 30; (with_reducible refine (parser_Count.calls kj10 _ _ t170 t199 _ ?side1 ?side2 A35.out).mono ?_); (case side1 => repeat (first | exact (Kd.N_reads' HO_5.out).2.2 | (with_reducible refine Kd.C_alloc ?_ _) | (with_reducible refine Kd.C_drewN ?_ _) | (with_reducible refine Kd.C_drew ?_))); (case side2 => exact (Kd.N_reads' HO_5.out).2.1); rintro e w59 ⟨rfl, hb⟩; refine cut8_ (Kd.N_below (rN_ HO_5.out) hb) (Kd.N_below (rN_ HO_7.out) hb) (Kd.N_below (rN_ HO184.out) hb) (Kd.N_below (rN_ HO196.out) hb) (bb_ BK175.out hb) (bb_ BK181.out hb) (bb_ BK187.out hb) (below_step (bl3_ HB.out GE175.out GE181.out GE187.out) hb) ?_; clear HO_5 HO_7 HO184 HO196 BK175 BK181 BK187 HB; intro HO_5 HO_7 HO184 HO196 BK175 BK181 BK187 HB; (try clear hb); (try clear hb2); (try clear hk); (try clear hi)) | (go_at_call 30; (with_reducible refine (parser_Count.calls kj10 _ _ t176 t200 _ ?side1 ?side2 A36.out).mono ?_); (case side1 => repeat (first | exact (Kd.N_reads' HO_7.out).2.2 | (with_reducible refine Kd.C_alloc ?_ _) | (with_reducible refine Kd.C_drewN ?_ _) | (with_reducible refine Kd.C_drew ?_))); (case side2 => exact (Kd.N_reads' HO_7.out).2.1); rintro e w60 ⟨rfl, hb⟩; refine cut8_ (Kd.N_below (rN_ HO_5.out) hb) (Kd.N_below (rN_ HO_7.out) hb) (Kd.N_below (rN_ HO184.out) hb) (Kd.N_below (rN_ HO196.out) hb) (bb_ BK175.out hb) (bb_ BK181.out hb) (bb_ BK187.out hb) (below_step (bl3_ HB.out GE175.out GE181.out GE187.out) hb) ?_; clear HO_5 HO_7 HO184 HO196 BK175 BK181 BK187 HB; intro HO_5 HO_7 HO184 HO196 BK175 BK181 BK187 HB; (try clear hb); (try clear hb2); (try clear hk); (try clear hi)) | (go_at_call 31; (with_reducible refine (parser_Depth.calls kj10 _ _ y194 t201 _ ?side1 ?side2 A38.out).mono ?_); (case side1 => repeat (first | exact (Kd.N_reads' HO196.out).2.2 | (with_reducible refine Kd.C_alloc ?_ _) | (with_reducible refine Kd.C_drewN ?_ _) | (with_reducible refine Kd.C_drew ?_))); (case side2 => exact (Kd.N_reads' HO196.out).2.1); rintro e w61 ⟨rfl, hb⟩; refine cut8_ (Kd.N_below (rN_ HO_5.out) hb) (Kd.N_below (rN_ HO_7.out) hb) (Kd.N_below (rN_ HO184.out) hb) (Kd.N_below (rN_ HO196.out) hb) (bb_ BK175.out hb) (bb_ BK181.out hb) (bb_ BK187.out hb) (below_step (bl3_ HB.out GE175.out GE181.out GE187.out) hb) ?_; clear HO_5 HO_7 HO184 HO196 BK175 BK181 BK187 HB; intro HO_5 HO_7 HO184 HO196 BK175 BK181 BK187 HB; (try clear hb); (try clear hb2); (try clear hk); (try clear hi)) | (go_at_call 31; (with_reducible refine (parser_Depth.calls kj10 _ _ t170 t202 _ ?side1 ?side2 A39.out).mono ?_); (case side1 => repeat (first | exact (Kd.N_reads' HO_5.out).2.2 | (with_reducible refine Kd.C_alloc ?_ _) | (with_reducible refine Kd.C_drewN ?_ _) | (with_reducible refine Kd.C_drew ?_))); (case side2 => exact (Kd.N_reads' HO_5.out).2.1); rintro e w62 ⟨rfl, hb⟩; refine cut8_ (Kd.N_below (rN_ HO_5.out) hb) (Kd.N_below (rN_ HO_7.out) hb) (Kd.N_below (rN_ HO184.out) hb) (Kd.N_below (rN_ HO196.out) hb) (bb_ BK175.out hb) (bb_ BK181.out hb) (bb_ BK187.out hb) (below_step (bl3_ HB.out GE175.out GE181.out GE187.out) hb) ?_; clear HO_5 HO_7 HO184 HO196 BK175 BK181 BK187 HB; intro HO_5 HO_7 HO184 HO196 BK175 BK181 BK187 HB; (try clear hb); (try clear hb2); (try clear hk); (try clear hi)) | (go_at_call 31; (with_reducible refine (parser_Depth.calls kj10 _ _ t176 t203 _ ?side1 ?side2 A40.out).mono ?_); (case side1 => repeat (first | exact (Kd.N_reads' HO_7.out).2.2 | (with_reducible refine Kd.C_alloc ?_ _) | (with_reducible refine Kd.C_drewN ?_ _) | (with_reducible refine Kd.C_drew ?_))); (case side2 => exact (Kd.N_reads' HO_7.out).2.1); rintro e w63 ⟨rfl, hb⟩; refine cut8_ (Kd.N_below (rN_ HO_5.out) hb) (Kd.N_below (rN_ HO_7.out) hb) (Kd.N_below (rN_ HO184.out) hb) (Kd.N_below (rN_ HO196.out) hb) (bb_ BK175.out hb) (bb_ BK181.out hb) (bb_ BK187.out hb) (below_step (bl3_ HB.out GE175.out GE181.out GE187.out) hb) ?_; clear HO_5 HO_7 HO184 HO196 BK175 BK181 BK187 HB; intro HO_5 HO_7 HO184 HO196 BK175 BK181 BK187 HB; (try clear hb); (try clear hb2); (try clear hk); (try clear hi)))
               go_ret
               exact ⟨by first | rfl | (simp [errW_none, errW_some] <;> rfl) | (simp only [← hji41]; first | rfl | (simp [errW_none, errW_some] <;> rfl)) | (simp [*, errW_none, errW_some] <;> rfl), bl3_ HB.out GE175.out GE181.out GE187.out⟩
              ·
               rw [if_neg c37] at H
               have c37b0 := beq_eq_false_iff_ne.mpr c37
               have c37b1 := bne_iff_ne.mpr c37
               obtain rfl := Option.some.inj H
               go_wp2_with (first | ((with_reducible refine gate_callee (f := 22) rfl ?_); refine goesL_ (some 45) rfl rfl Tryd.func22 (by kernel_rfl) rfl #[.string ((a0 ++ (⟨#[10]⟩ : ByteArray)) ++ a1)] rfl ga_ ?_; (with_reducible refine (parser_Parse.calls kj10 ((a0 ++ (⟨#[10]⟩ : ByteArray)) ++ a1) t182 t185 t186 _ A28.out).mono ?_); rintro e w64 ⟨v183, rfl, ho0, hb⟩; refine ⟨_, rfl, ?_⟩; refine cut6_ (Kd.N_elder' (rN_ HO_5.out) (Kd.N_base (Kd.R_N (Kd.R_bound ho0))) hb) (Kd.N_elder' (rN_ HO_7.out) (Kd.N_base (Kd.R_N (Kd.R_bound ho0))) hb) (Kd.N_lower (Kd.N_mono (ok' := fun k_ => some k_ ≠ (v171 : Value).ownBlock ∧ some k_ ≠ (v177 : Value).ownBlock ∧ k_ ≠ gb175 ∧ k_ ≠ gb181) (Kd.R_N (Kd.R_bound ho0)) (fun k_ hk_ => ⟨(Kd.fresh' (Kd.N_lt (rN_ HO_5.out)) k_ hk_.2.1), (Kd.fresh' (Kd.N_lt (rN_ HO_7.out)) k_ hk_.2.1), (Kd.freshB (g := gb175) (o := .cells #[.int .i64 t173, .int .i64 t174] 26 (0, 0)) (bk_ BK175.out) k_ hk_.2.1), (Kd.freshB (g := gb181) (o := .cells #[.int .i64 t179, .int .i64 t180] 26 (0, 0)) (bk_ BK181.out) k_ hk_.2.1)⟩)) (below_size (bl2_ HB.out GE175.out GE181.out))) (bb_ BK175.out hb) (bb_ BK181.out hb) (below_step (bl2_ HB.out GE175.out GE181.out) hb) ?_; clear HO_5 HO_7 BK175 BK181 HB; intro HO_5 HO_7 HO184 BK175 BK181 HB; (try clear hb); (try clear hb2); (try clear hk); (try clear hi); (try clear ho0)) | ((with_reducible refine gate_dst (N := 10) rfl ?_); (try (refine gate_guard (by rfl) ?_; dsimp only)); refine bx_ (N := 10) (cs := #[.int .i64 0, .int .i64 0]) (t := 26) ?_; intro gb187 hg w65 hbox hb; refine cut13_ (Kd.N_below (Kd.N_elderB (rN_ HO_5.out) gb187 (Nat.le_of_eq hg.symm)) hb) (Kd.N_below (Kd.N_elderB (rN_ HO_7.out) gb187 (Nat.le_of_eq hg.symm)) hb) (Kd.N_below (Kd.N_elderB (rN_ HO184.out) gb187 (Nat.le_of_eq hg.symm)) hb) (bb_ BK175.out hb) (bb_ BK181.out hb) (below_step (bl2_ HB.out GE175.out GE181.out) hb) (hbox) (bz_ (w := w) hg (bl2_ HB.out GE175.out GE181.out)) (bz_ (w := w) hg (bl2_ HB.out GE175.out GE181.out)) (nl_ hg BK175.out) (ng_ hg BK175.out) (nl_ hg BK181.out) (ng_ hg BK181.out) ?_; clear HO_5 HO_7 HO184 BK175 BK181 HB; intro HO_5 HO_7 HO184 BK175 BK181 HB BK187 GW187 GE187 NB175_187 NB187_175 NB181_187 NB187_181; clear hb hbox hg; have hnb66 := NB187_175.out; have hnc66 := NB175_187.out; have hnb67 := NB187_181.out; have hnc67 := NB181_187.out; obtain ⟨hcz68_0, hcz68_1, hfz68_0, hfz68_1⟩ := cq2_ BK187.out) | ((with_reducible refine gate_store (t := 26) (p := 10) rfl ?_); refine store_event (t := 26) (p := 10) (v := ?vo_w69) (w1 := ((w65.setCell ⟨gb187, 0, none⟩ (.int .i64 t185)).setCell ⟨gb187, 1, none⟩ (.int .i64 t186))) ?hg ?ho ?hn ?hr ?_; (case ho => rfl); (case hg => rfl); (case hn => rfl); (case hr => first | (go_simp; done) | (go_simp; rfl)); intro w69 hw; have n0_ : Aside0 (Kd.N k41 41 w69 w.heap.size (fun k_ => some k_ ≠ (v177 : Value).ownBlock ∧ some k_ ≠ (v183 : Value).ownBlock ∧ k_ ≠ gb175 ∧ k_ ≠ gb181 ∧ k_ ≠ gb187) v171 t170) := ⟨(by rw [hw]; exact (by (with_reducible repeat (first | apply Kd.N_alloc | apply Kd.N_drewN | apply Kd.N_drew)); exact Kd.N_mono (Kd.N_far (p := ⟨gb187, 1, none⟩) (Kd.N_far (p := ⟨gb187, 0, none⟩) (Kd.N_mono HO_5.out (fun k_ hk => (⟨hk, hk.2⟩ : _ ∧ k_ ≠ gb187))) (fun _ hk => hk.2) (.int .i64 t185)) (fun _ hk => hk.2) (.int .i64 t186)) (fun _ hk => ⟨hk.1.1.1.1, ⟨hk.1.1.2, ⟨hk.1.1.1.2.1, ⟨hk.1.1.1.2.2, hk.1.2⟩⟩⟩⟩)))⟩; have n1_ : Aside0 (Kd.N k41 41 w69 w.heap.size (fun k_ => some k_ ≠ (v171 : Value).ownBlock ∧ some k_ ≠ (v183 : Value).ownBlock ∧ k_ ≠ gb175 ∧ k_ ≠ gb181 ∧ k_ ≠ gb187) v177 t176) := ⟨(by rw [hw]; exact (by (with_reducible repeat (first | apply Kd.N_alloc | apply Kd.N_drewN | apply Kd.N_drew)); exact Kd.N_mono (Kd.N_far (p := ⟨gb187, 1, none⟩) (Kd.N_far (p := ⟨gb187, 0, none⟩) (Kd.N_mono HO_7.out (fun k_ hk => (⟨hk, hk.2⟩ : _ ∧ k_ ≠ gb187))) (fun _ hk => hk.2) (.int .i64 t185)) (fun _ hk => hk.2) (.int .i64 t186)) (fun _ hk => ⟨hk.1.1.1.1, ⟨hk.1.1.2, ⟨hk.1.1.1.2.1, ⟨hk.1.1.1.2.2, hk.1.2⟩⟩⟩⟩)))⟩; have n2_ : Aside0 (Kd.N k41 41 w69 w.heap.size (fun k_ => some k_ ≠ (v171 : Value).ownBlock ∧ some k_ ≠ (v177 : Value).ownBlock ∧ k_ ≠ gb175 ∧ k_ ≠ gb181 ∧ k_ ≠ gb187) v183 t182) := ⟨(by rw [hw]; exact (by (with_reducible repeat (first | apply Kd.N_alloc | apply Kd.N_drewN | apply Kd.N_drew)); exact Kd.N_mono (Kd.N_far (p := ⟨gb187, 1, none⟩) (Kd.N_far (p := ⟨gb187, 0, none⟩) (Kd.N_mono HO184.out (fun k_ hk => (⟨hk, hk.2⟩ : _ ∧ k_ ≠ gb187))) (fun _ hk => hk.2) (.int .i64 t185)) (fun _ hk => hk.2) (.int .i64 t186)) (fun _ hk => ⟨hk.1.1.1, ⟨hk.1.1.2.1, ⟨hk.1.1.2.2.1, ⟨hk.1.1.2.2.2, hk.1.2⟩⟩⟩⟩)))⟩; have n3_ : Aside0 (w69.heap[gb175]? = some (.cells #[.int .i64 t173, .int .i64 t174] 26 (0, 0))) := ⟨(by rw [hw]; exact (by exact far2_ (bk_ BK175.out) NB175_187.out))⟩; have n4_ : Aside0 (w69.heap[gb181]? = some (.cells #[.int .i64 t179, .int .i64 t180] 26 (0, 0))) := ⟨(by rw [hw]; exact (by exact far2_ (bk_ BK181.out) NB181_187.out))⟩; have n5_ : Aside0 (w69.heap[gb187]? = some (.cells #[.int .i64 t185, .int .i64 t186] 26 (0, 0))) := ⟨(by rw [hw]; exact (by exact put2_ (bk_ BK187.out)))⟩; have n6_ : Aside0 (Below w.heap.size w w69) := ⟨(by rw [hw]; exact (bl3_ HB.out GE175.out GE181.out GE187.out))⟩; clear hw; clear HO_5; clear HO_7; clear HO184; clear BK175; clear BK181; clear BK187; clear HB; have HO_5 := n0_; have HO_7 := n1_; have HO184 := n2_; have BK175 := n3_; have BK181 := n4_; have BK187 := n5_; have HB := n6_; clear n0_ n1_ n2_ n3_ n4_ n5_ n6_) | ((with_reducible refine gate_dst (N := 48) rfl ?_); (try (refine gate_guard (by rfl) ?_; dsimp only)); refine Kd.N_lit k41 _ 41 ?hg (N' := 48) ?hd (xs := ([] : List (S41))) (inner := []) (ok := (fun k_ => some k_ ≠ (v171 : Value).ownBlock ∧ some k_ ≠ (v177 : Value).ownBlock ∧ some k_ ≠ (v183 : Value).ownBlock ∧ k_ ≠ gb175 ∧ k_ ≠ gb181 ∧ k_ ≠ gb187)) (okp := (fun k_ => some k_ ≠ (v171 : Value).ownBlock ∧ some k_ ≠ (v177 : Value).ownBlock ∧ some k_ ≠ (v183 : Value).ownBlock ∧ k_ ≠ gb175 ∧ k_ ≠ gb181 ∧ k_ ≠ gb187)) ?hr ?hp (fun _ hk => hk) ((show ∀ k_, w69.heap.size ≤ k_ → (fun k_ => some k_ ≠ (v171 : Value).ownBlock ∧ some k_ ≠ (v177 : Value).ownBlock ∧ some k_ ≠ (v183 : Value).ownBlock ∧ k_ ≠ gb175 ∧ k_ ≠ gb181 ∧ k_ ≠ gb187) k_ from fun k_ hk => ⟨Kd.fresh' (Kd.N_lt (rN_ HO_5.out)) k_ hk, Kd.fresh' (Kd.N_lt (rN_ HO_7.out)) k_ hk, Kd.fresh' (Kd.N_lt (rN_ HO184.out)) k_ hk, Kd.freshB (g := gb175) (o := .cells #[.int .i64 t173, .int .i64 t174] 26 (0, 0)) (bk_ BK175.out) k_ hk, Kd.freshB (g := gb181) (o := .cells #[.int .i64 t179, .int .i64 t180] 26 (0, 0)) (bk_ BK181.out) k_ hk, Kd.freshB (g := gb187) (o := .cells #[.int .i64 t185, .int .i64 t186] 26 (0, 0)) (bk_ BK187.out) k_ hk⟩) _ (Nat.le_refl _)) (Below.refl _ _) (Nat.le_refl _) (by simp) ?_; (case hd => rfl); (case hg => rfl); (case hr => first | (go_simp; done) | (go_simp; rfl)); (case hp => exact (Reps.none _ _)); intro v189 w70 ho71 hb hg_ hnew_; clear hg_ hnew_; (first | rw [← Ny188.out] at ho71 | (simp only [Int.reduceToNat] at ho71; rw [← Ny188.out] at ho71)); refine cut8_ (Kd.N_elder' (rN_ HO_5.out) (Kd.N_base ho71) hb) (Kd.N_elder' (rN_ HO_7.out) (Kd.N_base ho71) hb) (Kd.N_elder' (rN_ HO184.out) (Kd.N_base ho71) hb) (Kd.N_lower ho71 (below_size (bl3_ HB.out GE175.out GE181.out GE187.out))) (bb_ BK175.out hb) (bb_ BK181.out hb) (bb_ BK187.out hb) (below_step (bl3_ HB.out GE175.out GE181.out GE187.out) hb) ?_; clear HO_5 HO_7 HO184 BK175 BK181 BK187 HB; intro HO_5 HO_7 HO184 HO190 BK175 BK181 BK187 HB; clear hb ho71; obtain ⟨Ao73, co73, eo73⟩ := Kd.N_slice HO_5.out; subst eo73) | ((with_reducible refine gate_builtin (b := .append) (xs := #[.tmp 48, .tmp 49]) rfl ?_); (try (refine gate_guard (by rfl) ?_; dsimp only)); at_builtin; refine Kd.N_append_rows k41 (w0 := w) w.heap.size rfl (.tmp 48) (.tmp 49) 23 41 (.agg #[(.string ⟨#[]⟩), (.slice none 0 0), (.bool false), (.slice none 0 0), (.int .i64 0)]) 80 rfl Tryd.underlying23 info41 rfl (by decide) (by omega) v189 y188 t170 _ _ _ (fun k_ => some k_ ≠ (v177 : Value).ownBlock ∧ some k_ ≠ (v183 : Value).ownBlock ∧ k_ ≠ gb175 ∧ k_ ≠ gb181 ∧ k_ ≠ gb187) (fun k_ => ((fun k_ => some k_ ≠ (v177 : Value).ownBlock ∧ some k_ ≠ (v183 : Value).ownBlock ∧ k_ ≠ gb175 ∧ k_ ≠ gb181 ∧ k_ ≠ gb187)) k_ ∧ some k_ ≠ (v189 : Value).ownBlock) rfl rfl ?aO ?aR (fun _ hk => hk) ?aF ?aB ?aS ?aL ?_; (case aR => exact (by skip; exact Kd.N_F (Kd.N_mono (ok' := (fun k_ => ((fun k_ => some k_ ≠ (v177 : Value).ownBlock ∧ some k_ ≠ (v183 : Value).ownBlock ∧ k_ ≠ gb175 ∧ k_ ≠ gb181 ∧ k_ ≠ gb187)) k_ ∧ some k_ ≠ (v189 : Value).ownBlock)) (HO_5.out) (fun k_ hk => ⟨⟨hk.1.1, ⟨hk.1.2.1, ⟨hk.1.2.2.1, ⟨hk.1.2.2.2.1, hk.1.2.2.2.2⟩⟩⟩⟩, hk.2⟩)))); (case aB => exact (bl3_ HB.out GE175.out GE181.out GE187.out)); (case aF => exact (fun k_ hk => ⟨Kd.fresh' (Kd.N_lt (rN_ HO_7.out)) k_ hk, Kd.fresh' (Kd.N_lt (rN_ HO184.out)) k_ hk, Kd.freshB (g := gb175) (o := .cells #[.int .i64 t173, .int .i64 t174] 26 (0, 0)) (bk_ BK175.out) k_ hk, Kd.freshB (g := gb181) (o := .cells #[.int .i64 t179, .int .i64 t180] 26 (0, 0)) (bk_ BK181.out) k_ hk, Kd.freshB (g := gb187) (o := .cells #[.int .i64 t185, .int .i64 t186] 26 (0, 0)) (bk_ BK187.out) k_ hk⟩)); (case aO => exact (by (with_reducible repeat (first | apply Kd.N_alloc | apply Kd.N_drewN | apply Kd.N_drew)); exact Kd.N_mono HO190.out (fun _ hk => ⟨hk.2.1, ⟨hk.2.2.1, ⟨hk.2.2.2.1, ⟨hk.2.2.2.2.1, hk.2.2.2.2.2⟩⟩⟩⟩))); (case aS => exact (below_size (bl3_ HB.out GE175.out GE181.out GE187.out))); (case aL => have := LMc29.out; omega); intro v192 w72 ho hb hg hat; rw [← Ny191.out] at ho; refine cut8_ (Kd.N_afterv (ok := (fun k_ => some k_ ≠ (v177 : Value).ownBlock ∧ some k_ ≠ (v183 : Value).ownBlock ∧ k_ ≠ gb175 ∧ k_ ≠ gb181 ∧ k_ ≠ gb187)) (rN_ HO_5.out) hg hat) (Kd.N_afterv (ok := (fun k_ => some k_ ≠ (.slice Ao73 t170.length co73 : Value).ownBlock ∧ some k_ ≠ (v183 : Value).ownBlock ∧ k_ ≠ gb175 ∧ k_ ≠ gb181 ∧ k_ ≠ gb187)) (rN_ HO_7.out) hg hat) (blk_grown (g := gb175) (o := .cells #[.int .i64 t173, .int .i64 t174] 26 (0, 0)) (bk_ BK175.out) hg (Kd.N_ne HO190.out BK175.out (by decide))) (blk_grown (g := gb181) (o := .cells #[.int .i64 t179, .int .i64 t180] 26 (0, 0)) (bk_ BK181.out) hg (Kd.N_ne HO190.out BK181.out (by decide))) (Kd.N_afterv (ok := (fun k_ => some k_ ≠ (.slice Ao73 t170.length co73 : Value).ownBlock ∧ some k_ ≠ (v177 : Value).ownBlock ∧ k_ ≠ gb175 ∧ k_ ≠ gb181 ∧ k_ ≠ gb187)) (rN_ HO184.out) hg hat) (blk_grown (g := gb187) (o := .cells #[.int .i64 t185, .int .i64 t186] 26 (0, 0)) (bk_ BK187.out) hg (Kd.N_ne HO190.out BK187.out (by decide))) (hb) (ho) ?_; clear HO_5 HO_7 BK175 BK181 HO184 BK187 HB HO190; intro HO_5 HO_7 BK175 BK181 HO184 BK187 HB HO193; clear ho hb hg hat; obtain ⟨Ao75, co75, eo75⟩ := Kd.N_slice HO_7.out; subst eo75) | ((with_reducible refine gate_builtin (b := .append) (xs := #[.tmp 50, .tmp 51]) rfl ?_); (try (refine gate_guard (by rfl) ?_; dsimp only)); at_builtin; refine Kd.N_append_rows k41 (w0 := w) w.heap.size rfl (.tmp 50) (.tmp 51) 23 41 (.agg #[(.string ⟨#[]⟩), (.slice none 0 0), (.bool false), (.slice none 0 0), (.int .i64 0)]) 80 rfl Tryd.underlying23 info41 rfl (by decide) (by omega) v192 y191 t176 _ _ _ (fun k_ => some k_ ≠ (v183 : Value).ownBlock ∧ k_ ≠ gb175 ∧ k_ ≠ gb181 ∧ k_ ≠ gb187) (fun k_ => ((fun k_ => some k_ ≠ (v183 : Value).ownBlock ∧ k_ ≠ gb175 ∧ k_ ≠ gb181 ∧ k_ ≠ gb187)) k_ ∧ some k_ ≠ (v192 : Value).ownBlock) rfl rfl ?aO ?aR (fun _ hk => hk) ?aF ?aB ?aS ?aL ?_; (case aR => exact (by skip; exact Kd.N_F (Kd.N_mono (ok' := (fun k_ => ((fun k_ => some k_ ≠ (v183 : Value).ownBlock ∧ k_ ≠ gb175 ∧ k_ ≠ gb181 ∧ k_ ≠ gb187)) k_ ∧ some k_ ≠ (v192 : Value).ownBlock)) (HO_7.out) (fun k_ hk => ⟨⟨hk.1.2.1, ⟨hk.1.2.2.1, ⟨hk.1.2.2.2.1, hk.1.2.2.2.2⟩⟩⟩, hk.2⟩)))); (case aB => exact (bl3_ HB.out GE175.out GE181.out GE187.out)); (case aF => exact (fun k_ hk => ⟨Kd.fresh' (Kd.N_lt (rN_ HO184.out)) k_ hk, Kd.freshB (g := gb175) (o := .cells #[.int .i64 t173, .int .i64 t174] 26 (0, 0)) (bk_ BK175.out) k_ hk, Kd.freshB (g := gb181) (o := .cells #[.int .i64 t179, .int .i64 t180] 26 (0, 0)) (bk_ BK181.out) k_ hk, Kd.freshB (g := gb187) (o := .cells #[.int .i64 t185, .int .i64 t186] 26 (0, 0)) (bk_ BK187.out) k_ hk⟩)); (case aO => exact (by (with_reducible repeat (first | apply Kd.N_alloc | apply Kd.N_drewN | apply Kd.N_drew)); exact Kd.N_mono HO193.out (fun _ hk => ⟨hk.2.1, ⟨hk.2.2.1, ⟨hk.2.2.2.1, hk.2.2.2.2⟩⟩⟩))); (case aS => exact (below_size (bl3_ HB.out GE175.out GE181.out GE187.out))); (case aL => have := LMc30.out; omega); intro v195 w74 ho hb hg hat; rw [← Ny194.out] at ho; refine cut8_ (Kd.N_afterv (ok := (fun k_ => some k_ ≠ (.slice Ao75 t176.length co75 : Value).ownBlock ∧ some k_ ≠ (v183 : Value).ownBlock ∧ k_ ≠ gb175 ∧ k_ ≠ gb181 ∧ k_ ≠ gb187)) (rN_ HO_5.out) hg hat) (Kd.N_afterv (ok := (fun k_ => some k_ ≠ (.slice Ao73 t170.length co73 : Value).ownBlock ∧ some k_ ≠ (v183 : Value).ownBlock ∧ k_ ≠ gb175 ∧ k_ ≠ gb181 ∧ k_ ≠ gb187)) (rN_ HO_7.out) hg hat) (blk_grown (g := gb175) (o := .cells #[.int .i64 t173, .int .i64 t174] 26 (0, 0)) (bk_ BK175.out) hg (Kd.N_ne HO193.out BK175.out (by decide))) (blk_grown (g := gb181) (o := .cells #[.int .i64 t179, .int .i64 t180] 26 (0, 0)) (bk_ BK181.out) hg (Kd.N_ne HO193.out BK181.out (by decide))) (Kd.N_afterv (ok := (fun k_ => some k_ ≠ (.slice Ao73 t170.length co73 : Value).ownBlock ∧ some k_ ≠ (.slice Ao75 t176.length co75 : Value).ownBlock ∧ k_ ≠ gb175 ∧ k_ ≠ gb181 ∧ k_ ≠ gb187)) (rN_ HO184.out) hg hat) (blk_grown (g := gb187) (o := .cells #[.int .i64 t185, .int .i64 t186] 26 (0, 0)) (bk_ BK187.out) hg (Kd.N_ne HO193.out BK187.out (by decide))) (hb) (ho) ?_; clear HO_5 HO_7 BK175 BK181 HO184 BK187 HB HO193; intro HO_5 HO_7 BK175 BK181 HO184 BK187 HB HO196; clear ho hb hg hat; obtain ⟨hcz76_0, hcz76_1, hfz76_0, hfz76_1⟩ := cq2_ BK187.out; obtain ⟨Ao77, co77, eo77⟩ := Kd.N_slice HO184.out; subst eo77; obtain ⟨Ao78, co78, eo78⟩ := Kd.N_slice HO196.out; subst eo78) | (go_at_call 29; (with_reducible refine (pSame.calls kj10 _ _ t182 _ _ y194 true _ ?side1 ?side2 ?side3 ?side4 A32.out).mono ?_); (case side1 => repeat (first | exact (Kd.N_reads' HO184.out).2.2 | (with_reducible refine Kd.C_alloc ?_ _) | (with_reducible refine Kd.C_drewN ?_ _) | (with_reducible refine Kd.C_drew ?_))); (case side2 => exact (Kd.N_reads' HO184.out).2.1); (case side3 => repeat (first | exact (Kd.N_reads' HO196.out).2.2 | (with_reducible refine Kd.C_alloc ?_ _) | (with_reducible refine Kd.C_drewN ?_ _) | (with_reducible refine Kd.C_drew ?_))); (case side4 => exact (Kd.N_reads' HO196.out).2.1); rintro e w79 ⟨rfl, hb⟩; refine cut8_ (Kd.N_below (rN_ HO_5.out) hb) (Kd.N_below (rN_ HO_7.out) hb) (Kd.N_below (rN_ HO184.out) hb) (Kd.N_below (rN_ HO196.out) hb) (bb_ BK175.out hb) (bb_ BK181.out hb) (bb_ BK187.out hb) (below_step (bl3_ HB.out GE175.out GE181.out GE187.out) hb) ?_; clear HO_5 HO_7 HO184 HO196 BK175 BK181 BK187 HB; intro HO_5 HO_7 HO184 HO196 BK175 BK181 BK187 HB; (try clear hb); (try clear hb2); (try clear hk); (try clear hi)) | (go_at_call 30; (with_reducible refine (parser_Count.calls kj10 _ _ y194 t198 _ ?side1 ?side2 A34.out).mono ?_); (case side1 => repeat (first | exact (Kd.N_reads' HO196.out).2.2 | (with_reducible refine Kd.C_alloc ?_ _) | (with_reducible refine Kd.C_drewN ?_ _) | (with_reducible refine Kd.C_drew ?_))); (case side2 => exact (Kd.N_reads' HO196.out).2.1); rintro e w80 ⟨rfl, hb⟩; refine cut8_ (Kd.N_below (rN_ HO_5.out) hb) (Kd.N_below (rN_ HO_7.out) hb) (Kd.N_below (rN_ HO184.out) hb) (Kd.N_below (rN_ HO196.out) hb) (bb_ BK175.out hb) (bb_ BK181.out hb) (bb_ BK187.out hb) (below_step (bl3_ HB.out GE175.out GE181.out GE187.out) hb) ?_; clear HO_5 HO_7 HO184 HO196 BK175 BK181 BK187 HB; intro HO_5 HO_7 HO184 HO196 BK175 BK181 BK187 HB; (try clear hb); (try clear hb2); (try clear hk); (try clear hi)) | (go_at_call 30; (with_reducible refine (parser_Count.calls kj10 _ _ t170 t199 _ ?side1 ?side2 A35.out).mono ?_); (case side1 => repeat (first | exact (Kd.N_reads' HO_5.out).2.2 | (with_reducible refine Kd.C_alloc ?_ _) | (with_reducible refine Kd.C_drewN ?_ _) | (with_reducible refine Kd.C_drew ?_))); (case side2 => exact (Kd.N_reads' HO_5.out).2.1); rintro e w81 ⟨rfl, hb⟩; refine cut8_ (Kd.N_below (rN_ HO_5.out) hb) (Kd.N_below (rN_ HO_7.out) hb) (Kd.N_below (rN_ HO184.out) hb) (Kd.N_below (rN_ HO196.out) hb) (bb_ BK175.out hb) (bb_ BK181.out hb) (bb_ BK187.out hb) (below_step (bl3_ HB.out GE175.out GE181.out GE187.out) hb) ?_; clear HO_5 HO_7 HO184 HO196 BK175 BK181 BK187 HB; intro HO_5 HO_7 HO184 HO196 BK175 BK181 BK187 HB; (try clear hb); (try clear hb2); (try clear hk); (try clear hi)) | (go_at_call 30; (with_reducible refine (parser_Count.calls kj10 _ _ t176 t200 _ ?side1 ?side2 A36.out).mono ?_); (case side1 => repeat (first | exact (Kd.N_reads' HO_7.out).2.2 | (with_reducible refine Kd.C_alloc ?_ _) | (with_reducible refine Kd.C_drewN ?_ _) | (with_reducible refine Kd.C_drew ?_))); (case side2 => exact (Kd.N_reads' HO_7.out).2.1); rintro e w82 ⟨rfl, hb⟩; refine cut8_ (Kd.N_below (rN_ HO_5.out) hb) (Kd.N_below (rN_ HO_7.out) hb) (Kd.N_below (rN_ HO184.out) hb) (Kd.N_below (rN_ HO196.out) hb) (bb_ BK175.out hb) (bb_ BK181.out hb) (bb_ BK187.out hb) (below_step (bl3_ HB.out GE175.out GE181.out GE187.out) hb) ?_; clear HO_5 HO_7 HO184 HO196 BK175 BK181 BK187 HB; intro HO_5 HO_7 HO184 HO196 BK175 BK181 BK187 HB; (try clear hb); (try clear hb2); (try clear hk); (try clear hi)))
               go_ret
               exact ⟨er_, bl3_ HB.out GE175.out GE181.out GE187.out⟩
             ·
              replace c33 := Bool.eq_false_iff.mpr c33
              subst c33
              have H1 : (some false) = some r := by rw [if_neg (show ¬ (false = true) by decide)] at H; exact H
              clear H
              have H := H1
              clear H1
              obtain rfl := Option.some.inj H
              go_wp2_with (first | ((with_reducible refine gate_callee (f := 22) rfl ?_); refine goesL_ (some 45) rfl rfl Tryd.func22 (by kernel_rfl) rfl #[.string ((a0 ++ (⟨#[10]⟩ : ByteArray)) ++ a1)] rfl ga_ ?_; (with_reducible refine (parser_Parse.calls kj10 ((a0 ++ (⟨#[10]⟩ : ByteArray)) ++ a1) t182 t185 t186 _ A28.out).mono ?_); rintro e w83 ⟨v183, rfl, ho0, hb⟩; refine ⟨_, rfl, ?_⟩; refine cut6_ (Kd.N_elder' (rN_ HO_5.out) (Kd.N_base (Kd.R_N (Kd.R_bound ho0))) hb) (Kd.N_elder' (rN_ HO_7.out) (Kd.N_base (Kd.R_N (Kd.R_bound ho0))) hb) (Kd.N_lower (Kd.N_mono (ok' := fun k_ => some k_ ≠ (v171 : Value).ownBlock ∧ some k_ ≠ (v177 : Value).ownBlock ∧ k_ ≠ gb175 ∧ k_ ≠ gb181) (Kd.R_N (Kd.R_bound ho0)) (fun k_ hk_ => ⟨(Kd.fresh' (Kd.N_lt (rN_ HO_5.out)) k_ hk_.2.1), (Kd.fresh' (Kd.N_lt (rN_ HO_7.out)) k_ hk_.2.1), (Kd.freshB (g := gb175) (o := .cells #[.int .i64 t173, .int .i64 t174] 26 (0, 0)) (bk_ BK175.out) k_ hk_.2.1), (Kd.freshB (g := gb181) (o := .cells #[.int .i64 t179, .int .i64 t180] 26 (0, 0)) (bk_ BK181.out) k_ hk_.2.1)⟩)) (below_size (bl2_ HB.out GE175.out GE181.out))) (bb_ BK175.out hb) (bb_ BK181.out hb) (below_step (bl2_ HB.out GE175.out GE181.out) hb) ?_; clear HO_5 HO_7 BK175 BK181 HB; intro HO_5 HO_7 HO184 BK175 BK181 HB; (try clear hb); (try clear hb2); (try clear hk); (try clear hi); (try clear ho0)) | ((with_reducible refine gate_dst (N := 10) rfl ?_); (try (refine gate_guard (by rfl) ?_; dsimp only)); refine bx_ (N := 10) (cs := #[.int .i64 0, .int .i64 0]) (t := 26) ?_; intro gb187 hg w84 hbox hb; refine cut13_ (Kd.N_below (Kd.N_elderB (rN_ HO_5.out) gb187 (Nat.le_of_eq hg.symm)) hb) (Kd.N_below (Kd.N_elderB (rN_ HO_7.out) gb187 (Nat.le_of_eq hg.symm)) hb) (Kd.N_below (Kd.N_elderB (rN_ HO184.out) gb187 (Nat.le_of_eq hg.symm)) hb) (bb_ BK175.out hb) (bb_ BK181.out hb) (below_step (bl2_ HB.out GE175.out GE181.out) hb) (hbox) (bz_ (w := w) hg (bl2_ HB.out GE175.out GE181.out)) (bz_ (w := w) hg (bl2_ HB.out GE175.out GE181.out)) (nl_ hg BK175.out) (ng_ hg BK175.out) (nl_ hg BK181.out) (ng_ hg BK181.out) ?_; clear HO_5 HO_7 HO184 BK175 BK181 HB; intro HO_5 HO_7 HO184 BK175 BK181 HB BK187 GW187 GE187 NB175_187 NB187_175 NB181_187 NB187_181; clear hb hbox hg; have hnb85 := NB187_175.out; have hnc85 := NB175_187.out; have hnb86 := NB187_181.out; have hnc86 := NB181_187.out; obtain ⟨hcz87_0, hcz87_1, hfz87_0, hfz87_1⟩ := cq2_ BK187.out) | ((with_reducible refine gate_store (t := 26) (p := 10) rfl ?_); refine store_event (t := 26) (p := 10) (v := ?vo_w88) (w1 := ((w84.setCell ⟨gb187, 0, none⟩ (.int .i64 t185)).setCell ⟨gb187, 1, none⟩ (.int .i64 t186))) ?hg ?ho ?hn ?hr ?_; (case ho => rfl); (case hg => rfl); (case hn => rfl); (case hr => first | (go_simp; done) | (go_simp; rfl)); intro w88 hw; have n0_ : Aside0 (Kd.N k41 41 w88 w.heap.size (fun k_ => some k_ ≠ (v177 : Value).ownBlock ∧ some k_ ≠ (v183 : Value).ownBlock ∧ k_ ≠ gb175 ∧ k_ ≠ gb181 ∧ k_ ≠ gb187) v171 t170) := ⟨(by rw [hw]; exact (by (with_reducible repeat (first | apply Kd.N_alloc | apply Kd.N_drewN | apply Kd.N_drew)); exact Kd.N_mono (Kd.N_far (p := ⟨gb187, 1, none⟩) (Kd.N_far (p := ⟨gb187, 0, none⟩) (Kd.N_mono HO_5.out (fun k_ hk => (⟨hk, hk.2⟩ : _ ∧ k_ ≠ gb187))) (fun _ hk => hk.2) (.int .i64 t185)) (fun _ hk => hk.2) (.int .i64 t186)) (fun _ hk => ⟨hk.1.1.1.1, ⟨hk.1.1.2, ⟨hk.1.1.1.2.1, ⟨hk.1.1.1.2.2, hk.1.2⟩⟩⟩⟩)))⟩; have n1_ : Aside0 (Kd.N k41 41 w88 w.heap.size (fun k_ => some k_ ≠ (v171 : Value).ownBlock ∧ some k_ ≠ (v183 : Value).ownBlock ∧ k_ ≠ gb175 ∧ k_ ≠ gb181 ∧ k_ ≠ gb187) v177 t176) := ⟨(by rw [hw]; exact (by (with_reducible repeat (first | apply Kd.N_alloc | apply Kd.N_drewN | apply Kd.N_drew)); exact Kd.N_mono (Kd.N_far (p := ⟨gb187, 1, none⟩) (Kd.N_far (p := ⟨gb187, 0, none⟩) (Kd.N_mono HO_7.out (fun k_ hk => (⟨hk, hk.2⟩ : _ ∧ k_ ≠ gb187))) (fun _ hk => hk.2) (.int .i64 t185)) (fun _ hk => hk.2) (.int .i64 t186)) (fun _ hk => ⟨hk.1.1.1.1, ⟨hk.1.1.2, ⟨hk.1.1.1.2.1, ⟨hk.1.1.1.2.2, hk.1.2⟩⟩⟩⟩)))⟩; have n2_ : Aside0 (Kd.N k41 41 w88 w.heap.size (fun k_ => some k_ ≠ (v171 : Value).ownBlock ∧ some k_ ≠ (v177 : Value).ownBlock ∧ k_ ≠ gb175 ∧ k_ ≠ gb181 ∧ k_ ≠ gb187) v183 t182) := ⟨(by rw [hw]; exact (by (with_reducible repeat (first | apply Kd.N_alloc | apply Kd.N_drewN | apply Kd.N_drew)); exact Kd.N_mono (Kd.N_far (p := ⟨gb187, 1, none⟩) (Kd.N_far (p := ⟨gb187, 0, none⟩) (Kd.N_mono HO184.out (fun k_ hk => (⟨hk, hk.2⟩ : _ ∧ k_ ≠ gb187))) (fun _ hk => hk.2) (.int .i64 t185)) (fun _ hk => hk.2) (.int .i64 t186)) (fun _ hk => ⟨hk.1.1.1, ⟨hk.1.1.2.1, ⟨hk.1.1.2.2.1, ⟨hk.1.1.2.2.2, hk.1.2⟩⟩⟩⟩)))⟩; have n3_ : Aside0 (w88.heap[gb175]? = some (.cells #[.int .i64 t173, .int .i64 t174] 26 (0, 0))) := ⟨(by rw [hw]; exact (by exact far2_ (bk_ BK175.out) NB175_187.out))⟩; have n4_ : Aside0 (w88.heap[gb181]? = some (.cells #[.int .i64 t179, .int .i64 t180] 26 (0, 0))) := ⟨(by rw [hw]; exact (by exact far2_ (bk_ BK181.out) NB181_187.out))⟩; have n5_ : Aside0 (w88.heap[gb187]? = some (.cells #[.int .i64 t185, .int .i64 t186] 26 (0, 0))) := ⟨(by rw [hw]; exact (by exact put2_ (bk_ BK187.out)))⟩; have n6_ : Aside0 (Below w.heap.size w w88) := ⟨(by rw [hw]; exact (bl3_ HB.out GE175.out GE181.out GE187.out))⟩; clear hw; clear HO_5; clear HO_7; clear HO184; clear BK175; clear BK181; clear BK187; clear HB; have HO_5 := n0_; have HO_7 := n1_; have HO184 := n2_; have BK175 := n3_; have BK181 := n4_; have BK187 := n5_; have HB := n6_; clear n0_ n1_ n2_ n3_ n4_ n5_ n6_) | ((with_reducible refine gate_dst (N := 48) rfl ?_); (try (refine gate_guard (by rfl) ?_; dsimp only)); refine Kd.N_lit k41 _ 41 ?hg (N' := 48) ?hd (xs := ([] : List (S41))) (inner := []) (ok := (fun k_ => some k_ ≠ (v171 : Value).ownBlock ∧ some k_ ≠ (v177 : Value).ownBlock ∧ some k_ ≠ (v183 : Value).ownBlock ∧ k_ ≠ gb175 ∧ k_ ≠ gb181 ∧ k_ ≠ gb187)) (okp := (fun k_ => some k_ ≠ (v171 : Value).ownBlock ∧ some k_ ≠ (v177 : Value).ownBlock ∧ some k_ ≠ (v183 : Value).ownBlock ∧ k_ ≠ gb175 ∧ k_ ≠ gb181 ∧ k_ ≠ gb187)) ?hr ?hp (fun _ hk => hk) ((show ∀ k_, w88.heap.size ≤ k_ → (fun k_ => some k_ ≠ (v171 : Value).ownBlock ∧ some k_ ≠ (v177 : Value).ownBlock ∧ some k_ ≠ (v183 : Value).ownBlock ∧ k_ ≠ gb175 ∧ k_ ≠ gb181 ∧ k_ ≠ gb187) k_ from fun k_ hk => ⟨Kd.fresh' (Kd.N_lt (rN_ HO_5.out)) k_ hk, Kd.fresh' (Kd.N_lt (rN_ HO_7.out)) k_ hk, Kd.fresh' (Kd.N_lt (rN_ HO184.out)) k_ hk, Kd.freshB (g := gb175) (o := .cells #[.int .i64 t173, .int .i64 t174] 26 (0, 0)) (bk_ BK175.out) k_ hk, Kd.freshB (g := gb181) (o := .cells #[.int .i64 t179, .int .i64 t180] 26 (0, 0)) (bk_ BK181.out) k_ hk, Kd.freshB (g := gb187) (o := .cells #[.int .i64 t185, .int .i64 t186] 26 (0, 0)) (bk_ BK187.out) k_ hk⟩) _ (Nat.le_refl _)) (Below.refl _ _) (Nat.le_refl _) (by simp) ?_; (case hd => rfl); (case hg => rfl); (case hr => first | (go_simp; done) | (go_simp; rfl)); (case hp => exact (Reps.none _ _)); intro v189 w89 ho90 hb hg_ hnew_; clear hg_ hnew_; (first | rw [← Ny188.out] at ho90 | (simp only [Int.reduceToNat] at ho90; rw [← Ny188.out] at ho90)); refine cut8_ (Kd.N_elder' (rN_ HO_5.out) (Kd.N_base ho90) hb) (Kd.N_elder' (rN_ HO_7.out) (Kd.N_base ho90) hb) (Kd.N_elder' (rN_ HO184.out) (Kd.N_base ho90) hb) (Kd.N_lower ho90 (below_size (bl3_ HB.out GE175.out GE181.out GE187.out))) (bb_ BK175.out hb) (bb_ BK181.out hb) (bb_ BK187.out hb) (below_step (bl3_ HB.out GE175.out GE181.out GE187.out) hb) ?_; clear HO_5 HO_7 HO184 BK175 BK181 BK187 HB; intro HO_5 HO_7 HO184 HO190 BK175 BK181 BK187 HB; clear hb ho90; obtain ⟨Ao92, co92, eo92⟩ := Kd.N_slice HO_5.out; subst eo92) | ((with_reducible refine gate_builtin (b := .append) (xs := #[.tmp 48, .tmp 49]) rfl ?_); (try (refine gate_guard (by rfl) ?_; dsimp only)); at_builtin; refine Kd.N_append_rows k41 (w0 := w) w.heap.size rfl (.tmp 48) (.tmp 49) 23 41 (.agg #[(.string ⟨#[]⟩), (.slice none 0 0), (.bool false), (.slice none 0 0), (.int .i64 0)]) 80 rfl Tryd.underlying23 info41 rfl (by decide) (by omega) v189 y188 t170 _ _ _ (fun k_ => some k_ ≠ (v177 : Value).ownBlock ∧ some k_ ≠ (v183 : Value).ownBlock ∧ k_ ≠ gb175 ∧ k_ ≠ gb181 ∧ k_ ≠ gb187) (fun k_ => ((fun k_ => some k_ ≠ (v177 : Value).ownBlock ∧ some k_ ≠ (v183 : Value).ownBlock ∧ k_ ≠ gb175 ∧ k_ ≠ gb181 ∧ k_ ≠ gb187)) k_ ∧ some k_ ≠ (v189 : Value).ownBlock) rfl rfl ?aO ?aR (fun _ hk => hk) ?aF ?aB ?aS ?aL ?_; (case aR => exact (by skip; exact Kd.N_F (Kd.N_mono (ok' := (fun k_ => ((fun k_ => some k_ ≠ (v177 : Value).ownBlock ∧ some k_ ≠ (v183 : Value).ownBlock ∧ k_ ≠ gb175 ∧ k_ ≠ gb181 ∧ k_ ≠ gb187)) k_ ∧ some k_ ≠ (v189 : Value).ownBlock)) (HO_5.out) (fun k_ hk => ⟨⟨hk.1.1, ⟨hk.1.2.1, ⟨hk.1.2.2.1, ⟨hk.1.2.2.2.1, hk.1.2.2.2.2⟩⟩⟩⟩, hk.2⟩)))); (case aB => exact (bl3_ HB.out GE175.out GE181.out GE187.out)); (case aF => exact (fun k_ hk => ⟨Kd.fresh' (Kd.N_lt (rN_ HO_7.out)) k_ hk, Kd.fresh' (Kd.N_lt (rN_ HO184.out)) k_ hk, Kd.freshB (g := gb175) (o := .cells #[.int .i64 t173, .int .i64 t174] 26 (0, 0)) (bk_ BK175.out) k_ hk, Kd.freshB (g := gb181) (o := .cells #[.int .i64 t179, .int .i64 t180] 26 (0, 0)) (bk_ BK181.out) k_ hk, Kd.freshB (g := gb187) (o := .cells #[.int .i64 t185, .int .i64 t186] 26 (0, 0)) (bk_ BK187.out) k_ hk⟩)); (case aO => exact (by (with_reducible repeat (first | apply Kd.N_alloc | apply Kd.N_drewN | apply Kd.N_drew)); exact Kd.N_mono HO190.out (fun _ hk => ⟨hk.2.1, ⟨hk.2.2.1, ⟨hk.2.2.2.1, ⟨hk.2.2.2.2.1, hk.2.2.2.2.2⟩⟩⟩⟩))); (case aS => exact (below_size (bl3_ HB.out GE175.out GE181.out GE187.out))); (case aL => have := LMc29.out; omega); intro v192 w91 ho hb hg hat; rw [← Ny191.out] at ho; refine cut8_ (Kd.N_afterv (ok := (fun k_ => some k_ ≠ (v177 : Value).ownBlock ∧ some k_ ≠ (v183 : Value).ownBlock ∧ k_ ≠ gb175 ∧ k_ ≠ gb181 ∧ k_ ≠ gb187)) (rN_ HO_5.out) hg hat) (Kd.N_afterv (ok := (fun k_ => some k_ ≠ (.slice Ao92 t170.length co92 : Value).ownBlock ∧ some k_ ≠ (v183 : Value).ownBlock ∧ k_ ≠ gb175 ∧ k_ ≠ gb181 ∧ k_ ≠ gb187)) (rN_ HO_7.out) hg hat) (blk_grown (g := gb175) (o := .cells #[.int .i64 t173, .int .i64 t174] 26 (0, 0)) (bk_ BK175.out) hg (Kd.N_ne HO190.out BK175.out (by decide))) (blk_grown (g := gb181) (o := .cells #[.int .i64 t179, .int .i64 t180] 26 (0, 0)) (bk_ BK181.out) hg (Kd.N_ne HO190.out BK181.out (by decide))) (Kd.N_afterv (ok := (fun k_ => some k_ ≠ (.slice Ao92 t170.length co92 : Value).ownBlock ∧ some k_ ≠ (v177 : Value).ownBlock ∧ k_ ≠ gb175 ∧ k_ ≠ gb181 ∧ k_ ≠ gb187)) (rN_ HO184.out) hg hat) (blk_grown (g := gb187) (o := .cells #[.int .i64 t185, .int .i64 t186] 26 (0, 0)) (bk_ BK187.out) hg (Kd.N_ne HO190.out BK187.out (by decide))) (hb) (ho) ?_; clear HO_5 HO_7 BK175 BK181 HO184 BK187 HB HO190; intro HO_5 HO_7 BK175 BK181 HO184 BK187 HB HO193; clear ho hb hg hat; obtain ⟨Ao94, co94, eo94⟩ := Kd.N_slice HO_7.out; subst eo94) | ((with_reducible refine gate_builtin (b := .append) (xs := #[.tmp 50, .tmp 51]) rfl ?_); (try (refine gate_guard (by rfl) ?_; dsimp only)); at_builtin; refine Kd.N_append_rows k41 (w0 := w) w.heap.size rfl (.tmp 50) (.tmp 51) 23 41 (.agg #[(.string ⟨#[]⟩), (.slice none 0 0), (.bool false), (.slice none 0 0), (.int .i64 0)]) 80 rfl Tryd.underlying23 info41 rfl (by decide) (by omega) v192 y191 t176 _ _ _ (fun k_ => some k_ ≠ (v183 : Value).ownBlock ∧ k_ ≠ gb175 ∧ k_ ≠ gb181 ∧ k_ ≠ gb187) (fun k_ => ((fun k_ => some k_ ≠ (v183 : Value).ownBlock ∧ k_ ≠ gb175 ∧ k_ ≠ gb181 ∧ k_ ≠ gb187)) k_ ∧ some k_ ≠ (v192 : Value).ownBlock) rfl rfl ?aO ?aR (fun _ hk => hk) ?aF ?aB ?aS ?aL ?_; (case aR => exact (by skip; exact Kd.N_F (Kd.N_mono (ok' := (fun k_ => ((fun k_ => some k_ ≠ (v183 : Value).ownBlock ∧ k_ ≠ gb175 ∧ k_ ≠ gb181 ∧ k_ ≠ gb187)) k_ ∧ some k_ ≠ (v192 : Value).ownBlock)) (HO_7.out) (fun k_ hk => ⟨⟨hk.1.2.1, ⟨hk.1.2.2.1, ⟨hk.1.2.2.2.1, hk.1.2.2.2.2⟩⟩⟩, hk.2⟩)))); (case aB => exact (bl3_ HB.out GE175.out GE181.out GE187.out)); (case aF => exact (fun k_ hk => ⟨Kd.fresh' (Kd.N_lt (rN_ HO184.out)) k_ hk, Kd.freshB (g := gb175) (o := .cells #[.int .i64 t173, .int .i64 t174] 26 (0, 0)) (bk_ BK175.out) k_ hk, Kd.freshB (g := gb181) (o := .cells #[.int .i64 t179, .int .i64 t180] 26 (0, 0)) (bk_ BK181.out) k_ hk, Kd.freshB (g := gb187) (o := .cells #[.int .i64 t185, .int .i64 t186] 26 (0, 0)) (bk_ BK187.out) k_ hk⟩)); (case aO => exact (by (with_reducible repeat (first | apply Kd.N_alloc | apply Kd.N_drewN | apply Kd.N_drew)); exact Kd.N_mono HO193.out (fun _ hk => ⟨hk.2.1, ⟨hk.2.2.1, ⟨hk.2.2.2.1, hk.2.2.2.2⟩⟩⟩))); (case aS => exact (below_size (bl3_ HB.out GE175.out GE181.out GE187.out))); (case aL => have := LMc30.out; omega); intro v195 w93 ho hb hg hat; rw [← Ny194.out] at ho; refine cut8_ (Kd.N_afterv (ok := (fun k_ => some k_ ≠ (.slice Ao94 t176.length co94 : Value).ownBlock ∧ some k_ ≠ (v183 : Value).ownBlock ∧ k_ ≠ gb175 ∧ k_ ≠ gb181 ∧ k_ ≠ gb187)) (rN_ HO_5.out) hg hat) (Kd.N_afterv (ok := (fun k_ => some k_ ≠ (.slice Ao92 t170.length co92 : Value).ownBlock ∧ some k_ ≠ (v183 : Value).ownBlock ∧ k_ ≠ gb175 ∧ k_ ≠ gb181 ∧ k_ ≠ gb187)) (rN_ HO_7.out) hg hat) (blk_grown (g := gb175) (o := .cells #[.int .i64 t173, .int .i64 t174] 26 (0, 0)) (bk_ BK175.out) hg (Kd.N_ne HO193.out BK175.out (by decide))) (blk_grown (g := gb181) (o := .cells #[.int .i64 t179, .int .i64 t180] 26 (0, 0)) (bk_ BK181.out) hg (Kd.N_ne HO193.out BK181.out (by decide))) (Kd.N_afterv (ok := (fun k_ => some k_ ≠ (.slice Ao92 t170.length co92 : Value).ownBlock ∧ some k_ ≠ (.slice Ao94 t176.length co94 : Value).ownBlock ∧ k_ ≠ gb175 ∧ k_ ≠ gb181 ∧ k_ ≠ gb187)) (rN_ HO184.out) hg hat) (blk_grown (g := gb187) (o := .cells #[.int .i64 t185, .int .i64 t186] 26 (0, 0)) (bk_ BK187.out) hg (Kd.N_ne HO193.out BK187.out (by decide))) (hb) (ho) ?_; clear HO_5 HO_7 BK175 BK181 HO184 BK187 HB HO193; intro HO_5 HO_7 BK175 BK181 HO184 BK187 HB HO196; clear ho hb hg hat; obtain ⟨hcz95_0, hcz95_1, hfz95_0, hfz95_1⟩ := cq2_ BK187.out; obtain ⟨Ao96, co96, eo96⟩ := Kd.N_slice HO184.out; subst eo96; obtain ⟨Ao97, co97, eo97⟩ := Kd.N_slice HO196.out; subst eo97) | (go_at_call 29; (with_reducible refine (pSame.calls kj10 _ _ t182 _ _ y194 false _ ?side1 ?side2 ?side3 ?side4 A32.out).mono ?_); (case side1 => repeat (first | exact (Kd.N_reads' HO184.out).2.2 | (with_reducible refine Kd.C_alloc ?_ _) | (with_reducible refine Kd.C_drewN ?_ _) | (with_reducible refine Kd.C_drew ?_))); (case side2 => exact (Kd.N_reads' HO184.out).2.1); (case side3 => repeat (first | exact (Kd.N_reads' HO196.out).2.2 | (with_reducible refine Kd.C_alloc ?_ _) | (with_reducible refine Kd.C_drewN ?_ _) | (with_reducible refine Kd.C_drew ?_))); (case side4 => exact (Kd.N_reads' HO196.out).2.1); rintro e w98 ⟨rfl, hb⟩; refine cut8_ (Kd.N_below (rN_ HO_5.out) hb) (Kd.N_below (rN_ HO_7.out) hb) (Kd.N_below (rN_ HO184.out) hb) (Kd.N_below (rN_ HO196.out) hb) (bb_ BK175.out hb) (bb_ BK181.out hb) (bb_ BK187.out hb) (below_step (bl3_ HB.out GE175.out GE181.out GE187.out) hb) ?_; clear HO_5 HO_7 HO184 HO196 BK175 BK181 BK187 HB; intro HO_5 HO_7 HO184 HO196 BK175 BK181 BK187 HB; (try clear hb); (try clear hb2); (try clear hk); (try clear hi)))
              go_ret
              exact ⟨er_, bl3_ HB.out GE175.out GE181.out GE187.out⟩
            ·
             rw [if_neg c31] at H
             have c31b0 := beq_eq_false_iff_ne.mpr c31
             have c31b1 := bne_iff_ne.mpr c31
             obtain rfl := Option.some.inj H
             go_wp2_with (first | ((with_reducible refine gate_callee (f := 22) rfl ?_); refine goesL_ (some 45) rfl rfl Tryd.func22 (by kernel_rfl) rfl #[.string ((a0 ++ (⟨#[10]⟩ : ByteArray)) ++ a1)] rfl ga_ ?_; (with_reducible refine (parser_Parse.calls kj10 ((a0 ++ (⟨#[10]⟩ : ByteArray)) ++ a1) t182 t185 t186 _ A28.out).mono ?_); rintro e w99 ⟨v183, rfl, ho0, hb⟩; refine ⟨_, rfl, ?_⟩; refine cut6_ (Kd.N_elder' (rN_ HO_5.out) (Kd.N_base (Kd.R_N (Kd.R_bound ho0))) hb) (Kd.N_elder' (rN_ HO_7.out) (Kd.N_base (Kd.R_N (Kd.R_bound ho0))) hb) (Kd.N_lower (Kd.N_mono (ok' := fun k_ => some k_ ≠ (v171 : Value).ownBlock ∧ some k_ ≠ (v177 : Value).ownBlock ∧ k_ ≠ gb175 ∧ k_ ≠ gb181) (Kd.R_N (Kd.R_bound ho0)) (fun k_ hk_ => ⟨(Kd.fresh' (Kd.N_lt (rN_ HO_5.out)) k_ hk_.2.1), (Kd.fresh' (Kd.N_lt (rN_ HO_7.out)) k_ hk_.2.1), (Kd.freshB (g := gb175) (o := .cells #[.int .i64 t173, .int .i64 t174] 26 (0, 0)) (bk_ BK175.out) k_ hk_.2.1), (Kd.freshB (g := gb181) (o := .cells #[.int .i64 t179, .int .i64 t180] 26 (0, 0)) (bk_ BK181.out) k_ hk_.2.1)⟩)) (below_size (bl2_ HB.out GE175.out GE181.out))) (bb_ BK175.out hb) (bb_ BK181.out hb) (below_step (bl2_ HB.out GE175.out GE181.out) hb) ?_; clear HO_5 HO_7 BK175 BK181 HB; intro HO_5 HO_7 HO184 BK175 BK181 HB; (try clear hb); (try clear hb2); (try clear hk); (try clear hi); (try clear ho0)) | ((with_reducible refine gate_dst (N := 10) rfl ?_); (try (refine gate_guard (by rfl) ?_; dsimp only)); refine bx_ (N := 10) (cs := #[.int .i64 0, .int .i64 0]) (t := 26) ?_; intro gb187 hg w100 hbox hb; refine cut13_ (Kd.N_below (Kd.N_elderB (rN_ HO_5.out) gb187 (Nat.le_of_eq hg.symm)) hb) (Kd.N_below (Kd.N_elderB (rN_ HO_7.out) gb187 (Nat.le_of_eq hg.symm)) hb) (Kd.N_below (Kd.N_elderB (rN_ HO184.out) gb187 (Nat.le_of_eq hg.symm)) hb) (bb_ BK175.out hb) (bb_ BK181.out hb) (below_step (bl2_ HB.out GE175.out GE181.out) hb) (hbox) (bz_ (w := w) hg (bl2_ HB.out GE175.out GE181.out)) (bz_ (w := w) hg (bl2_ HB.out GE175.out GE181.out)) (nl_ hg BK175.out) (ng_ hg BK175.out) (nl_ hg BK181.out) (ng_ hg BK181.out) ?_; clear HO_5 HO_7 HO184 BK175 BK181 HB; intro HO_5 HO_7 HO184 BK175 BK181 HB BK187 GW187 GE187 NB175_187 NB187_175 NB181_187 NB187_181; clear hb hbox hg; have hnb101 := NB187_175.out; have hnc101 := NB175_187.out; have hnb102 := NB187_181.out; have hnc102 := NB181_187.out; obtain ⟨hcz103_0, hcz103_1, hfz103_0, hfz103_1⟩ := cq2_ BK187.out) | ((with_reducible refine gate_store (t := 26) (p := 10) rfl ?_); refine store_event (t := 26) (p := 10) (v := ?vo_w104) (w1 := ((w100.setCell ⟨gb187, 0, none⟩ (.int .i64 t185)).setCell ⟨gb187, 1, none⟩ (.int .i64 t186))) ?hg ?ho ?hn ?hr ?_; (case ho => rfl); (case hg => rfl); (case hn => rfl); (case hr => first | (go_simp; done) | (go_simp; rfl)); intro w104 hw; have n0_ : Aside0 (Kd.N k41 41 w104 w.heap.size (fun k_ => some k_ ≠ (v177 : Value).ownBlock ∧ some k_ ≠ (v183 : Value).ownBlock ∧ k_ ≠ gb175 ∧ k_ ≠ gb181 ∧ k_ ≠ gb187) v171 t170) := ⟨(by rw [hw]; exact (by (with_reducible repeat (first | apply Kd.N_alloc | apply Kd.N_drewN | apply Kd.N_drew)); exact Kd.N_mono (Kd.N_far (p := ⟨gb187, 1, none⟩) (Kd.N_far (p := ⟨gb187, 0, none⟩) (Kd.N_mono HO_5.out (fun k_ hk => (⟨hk, hk.2⟩ : _ ∧ k_ ≠ gb187))) (fun _ hk => hk.2) (.int .i64 t185)) (fun _ hk => hk.2) (.int .i64 t186)) (fun _ hk => ⟨hk.1.1.1.1, ⟨hk.1.1.2, ⟨hk.1.1.1.2.1, ⟨hk.1.1.1.2.2, hk.1.2⟩⟩⟩⟩)))⟩; have n1_ : Aside0 (Kd.N k41 41 w104 w.heap.size (fun k_ => some k_ ≠ (v171 : Value).ownBlock ∧ some k_ ≠ (v183 : Value).ownBlock ∧ k_ ≠ gb175 ∧ k_ ≠ gb181 ∧ k_ ≠ gb187) v177 t176) := ⟨(by rw [hw]; exact (by (with_reducible repeat (first | apply Kd.N_alloc | apply Kd.N_drewN | apply Kd.N_drew)); exact Kd.N_mono (Kd.N_far (p := ⟨gb187, 1, none⟩) (Kd.N_far (p := ⟨gb187, 0, none⟩) (Kd.N_mono HO_7.out (fun k_ hk => (⟨hk, hk.2⟩ : _ ∧ k_ ≠ gb187))) (fun _ hk => hk.2) (.int .i64 t185)) (fun _ hk => hk.2) (.int .i64 t186)) (fun _ hk => ⟨hk.1.1.1.1, ⟨hk.1.1.2, ⟨hk.1.1.1.2.1, ⟨hk.1.1.1.2.2, hk.1.2⟩⟩⟩⟩)))⟩; have n2_ : Aside0 (Kd.N k41 41 w104 w.heap.size (fun k_ => some k_ ≠ (v171 : Value).ownBlock ∧ some k_ ≠ (v177 : Value).ownBlock ∧ k_ ≠ gb175 ∧ k_ ≠ gb181 ∧ k_ ≠ gb187) v183 t182) := ⟨(by rw [hw]; exact (by (with_reducible repeat (first | apply Kd.N_alloc | apply Kd.N_drewN | apply Kd.N_drew)); exact Kd.N_mono (Kd.N_far (p := ⟨gb187, 1, none⟩) (Kd.N_far (p := ⟨gb187, 0, none⟩) (Kd.N_mono HO184.out (fun k_ hk => (⟨hk, hk.2⟩ : _ ∧ k_ ≠ gb187))) (fun _ hk => hk.2) (.int .i64 t185)) (fun _ hk => hk.2) (.int .i64 t186)) (fun _ hk => ⟨hk.1.1.1, ⟨hk.1.1.2.1, ⟨hk.1.1.2.2.1, ⟨hk.1.1.2.2.2, hk.1.2⟩⟩⟩⟩)))⟩; have n3_ : Aside0 (w104.heap[gb175]? = some (.cells #[.int .i64 t173, .int .i64 t174] 26 (0, 0))) := ⟨(by rw [hw]; exact (by exact far2_ (bk_ BK175.out) NB175_187.out))⟩; have n4_ : Aside0 (w104.heap[gb181]? = some (.cells #[.int .i64 t179, .int .i64 t180] 26 (0, 0))) := ⟨(by rw [hw]; exact (by exact far2_ (bk_ BK181.out) NB181_187.out))⟩; have n5_ : Aside0 (w104.heap[gb187]? = some (.cells #[.int .i64 t185, .int .i64 t186] 26 (0, 0))) := ⟨(by rw [hw]; exact (by exact put2_ (bk_ BK187.out)))⟩; have n6_ : Aside0 (Below w.heap.size w w104) := ⟨(by rw [hw]; exact (bl3_ HB.out GE175.out GE181.out GE187.out))⟩; clear hw; clear HO_5; clear HO_7; clear HO184; clear BK175; clear BK181; clear BK187; clear HB; have HO_5 := n0_; have HO_7 := n1_; have HO184 := n2_; have BK175 := n3_; have BK181 := n4_; have BK187 := n5_; have HB := n6_; clear n0_ n1_ n2_ n3_ n4_ n5_ n6_) | ((with_reducible refine gate_dst (N := 48) rfl ?_); (try (refine gate_guard (by rfl) ?_; dsimp only)); refine Kd.N_lit k41 _ 41 ?hg (N' := 48) ?hd (xs := ([] : List (S41))) (inner := []) (ok := (fun k_ => some k_ ≠ (v171 : Value).ownBlock ∧ some k_ ≠ (v177 : Value).ownBlock ∧ some k_ ≠ (v183 : Value).ownBlock ∧ k_ ≠ gb175 ∧ k_ ≠ gb181 ∧ k_ ≠ gb187)) (okp := (fun k_ => some k_ ≠ (v171 : Value).ownBlock ∧ some k_ ≠ (v177 : Value).ownBlock ∧ some k_ ≠ (v183 : Value).ownBlock ∧ k_ ≠ gb175 ∧ k_ ≠ gb181 ∧ k_ ≠ gb187)) ?hr ?hp (fun _ hk => hk) ((show ∀ k_, w104.heap.size ≤ k_ → (fun k_ => some k_ ≠ (v171 : Value).ownBlock ∧ some k_ ≠ (v177 : Value).ownBlock ∧ some k_ ≠ (v183 : Value).ownBlock ∧ k_ ≠ gb175 ∧ k_ ≠ gb181 ∧ k_ ≠ gb187) k_ from fun k_ hk => ⟨Kd.fresh' (Kd.N_lt (rN_ HO_5.out)) k_ hk, Kd.fresh' (Kd.N_lt (rN_ HO_7.out)) k_ hk, Kd.fresh' (Kd.N_lt (rN_ HO184.out)) k_ hk, Kd.freshB (g := gb175) (o := .cells #[.int .i64 t173, .int .i64 t174] 26 (0, 0)) (bk_ BK175.out) k_ hk, Kd.freshB (g := gb181) (o := .cells #[.int .i64 t179, .int .i64 t180] 26 (0, 0)) (bk_ BK181.out) k_ hk, Kd.freshB (g := gb187) (o := .cells #[.int .i64 t185, .int .i64 t186] 26 (0, 0)) (bk_ BK187.out) k_ hk⟩) _ (Nat.le_refl _)) (Below.refl _ _) (Nat.le_refl _) (by simp) ?_; (case hd => rfl); (case hg => rfl); (case hr => first | (go_simp; done) | (go_simp; rfl)); (case hp => exact (Reps.none _ _)); intro v189 w105 ho106 hb hg_ hnew_; clear hg_ hnew_; (first | rw [← Ny188.out] at ho106 | (simp only [Int.reduceToNat] at ho106; rw [← Ny188.out] at ho106)); refine cut8_ (Kd.N_elder' (rN_ HO_5.out) (Kd.N_base ho106) hb) (Kd.N_elder' (rN_ HO_7.out) (Kd.N_base ho106) hb) (Kd.N_elder' (rN_ HO184.out) (Kd.N_base ho106) hb) (Kd.N_lower ho106 (below_size (bl3_ HB.out GE175.out GE181.out GE187.out))) (bb_ BK175.out hb) (bb_ BK181.out hb) (bb_ BK187.out hb) (below_step (bl3_ HB.out GE175.out GE181.out GE187.out) hb) ?_; clear HO_5 HO_7 HO184 BK175 BK181 BK187 HB; intro HO_5 HO_7 HO184 HO190 BK175 BK181 BK187 HB; clear hb ho106; obtain ⟨Ao108, co108, eo108⟩ := Kd.N_slice HO_5.out; subst eo108) | ((with_reducible refine gate_builtin (b := .append) (xs := #[.tmp 48, .tmp 49]) rfl ?_); (try (refine gate_guard (by rfl) ?_; dsimp only)); at_builtin; refine Kd.N_append_rows k41 (w0 := w) w.heap.size rfl (.tmp 48) (.tmp 49) 23 41 (.agg #[(.string ⟨#[]⟩), (.slice none 0 0), (.bool false), (.slice none 0 0), (.int .i64 0)]) 80 rfl Tryd.underlying23 info41 rfl (by decide) (by omega) v189 y188 t170 _ _ _ (fun k_ => some k_ ≠ (v177 : Value).ownBlock ∧ some k_ ≠ (v183 : Value).ownBlock ∧ k_ ≠ gb175 ∧ k_ ≠ gb181 ∧ k_ ≠ gb187) (fun k_ => ((fun k_ => some k_ ≠ (v177 : Value).ownBlock ∧ some k_ ≠ (v183 : Value).ownBlock ∧ k_ ≠ gb175 ∧ k_ ≠ gb181 ∧ k_ ≠ gb187)) k_ ∧ some k_ ≠ (v189 : Value).ownBlock) rfl rfl ?aO ?aR (fun _ hk => hk) ?aF ?aB ?aS ?aL ?_; (case aR => exact (by skip; exact Kd.N_F (Kd.N_mono (ok' := (fun k_ => ((fun k_ => some k_ ≠ (v177 : Value).ownBlock ∧ some k_ ≠ (v183 : Value).ownBlock ∧ k_ ≠ gb175 ∧ k_ ≠ gb181 ∧ k_ ≠ gb187)) k_ ∧ some k_ ≠ (v189 : Value).ownBlock)) (HO_5.out) (fun k_ hk => ⟨⟨hk.1.1, ⟨hk.1.2.1, ⟨hk.1.2.2.1, ⟨hk.1.2.2.2.1, hk.1.2.2.2.2⟩⟩⟩⟩, hk.2⟩)))); (case aB => exact (bl3_ HB.out GE175.out GE181.out GE187.out)); (case aF => exact (fun k_ hk => ⟨Kd.fresh' (Kd.N_lt (rN_ HO_7.out)) k_ hk, Kd.fresh' (Kd.N_lt (rN_ HO184.out)) k_ hk, Kd.freshB (g := gb175) (o := .cells #[.int .i64 t173, .int .i64 t174] 26 (0, 0)) (bk_ BK175.out) k_ hk, Kd.freshB (g := gb181) (o := .cells #[.int .i64 t179, .int .i64 t180] 26 (0, 0)) (bk_ BK181.out) k_ hk, Kd.freshB (g := gb187) (o := .cells #[.int .i64 t185, .int .i64 t186] 26 (0, 0)) (bk_ BK187.out) k_ hk⟩)); (case aO => exact (by (with_reducible repeat (first | apply Kd.N_alloc | apply Kd.N_drewN | apply Kd.N_drew)); exact Kd.N_mono HO190.out (fun _ hk => ⟨hk.2.1, ⟨hk.2.2.1, ⟨hk.2.2.2.1, ⟨hk.2.2.2.2.1, hk.2.2.2.2.2⟩⟩⟩⟩))); (case aS => exact (below_size (bl3_ HB.out GE175.out GE181.out GE187.out))); (case aL => have := LMc29.out; omega); intro v192 w107 ho hb hg hat; rw [← Ny191.out] at ho; refine cut8_ (Kd.N_afterv (ok := (fun k_ => some k_ ≠ (v177 : Value).ownBlock ∧ some k_ ≠ (v183 : Value).ownBlock ∧ k_ ≠ gb175 ∧ k_ ≠ gb181 ∧ k_ ≠ gb187)) (rN_ HO_5.out) hg hat) (Kd.N_afterv (ok := (fun k_ => some k_ ≠ (.slice Ao108 t170.length co108 : Value).ownBlock ∧ some k_ ≠ (v183 : Value).ownBlock ∧ k_ ≠ gb175 ∧ k_ ≠ gb181 ∧ k_ ≠ gb187)) (rN_ HO_7.out) hg hat) (blk_grown (g := gb175) (o := .cells #[.int .i64 t173, .int .i64 t174] 26 (0, 0)) (bk_ BK175.out) hg (Kd.N_ne HO190.out BK175.out (by decide))) (blk_grown (g := gb181) (o := .cells #[.int .i64 t179, .int .i64 t180] 26 (0, 0)) (bk_ BK181.out) hg (Kd.N_ne HO190.out BK181.out (by decide))) (Kd.N_afterv (ok := (fun k_ => some k_ ≠ (.slice Ao108 t170.length co108 : Value).ownBlock ∧ some k_ ≠ (v177 : Value).ownBlock ∧ k_ ≠ gb175 ∧ k_ ≠ gb181 ∧ k_ ≠ gb187)) (rN_ HO184.out) hg hat) (blk_grown (g := gb187) (o := .cells #[.int .i64 t185, .int .i64 t186] 26 (0, 0)) (bk_ BK187.out) hg (Kd.N_ne HO190.out BK187.out (by decide))) (hb) (ho) ?_; clear HO_5 HO_7 BK175 BK181 HO184 BK187 HB HO190; intro HO_5 HO_7 BK175 BK181 HO184 BK187 HB HO193; clear ho hb hg hat; obtain ⟨Ao110, co110, eo110⟩ := Kd.N_slice HO_7.out; subst eo110) | ((with_reducible refine gate_builtin (b := .append) (xs := #[.tmp 50, .tmp 51]) rfl ?_); (try (refine gate_guard (by rfl) ?_; dsimp only)); at_builtin; refine Kd.N_append_rows k41 (w0 := w) w.heap.size rfl (.tmp 50) (.tmp 51) 23 41 (.agg #[(.string ⟨#[]⟩), (.slice none 0 0), (.bool false), (.slice none 0 0), (.int .i64 0)]) 80 rfl Tryd.underlying23 info41 rfl (by decide) (by omega) v192 y191 t176 _ _ _ (fun k_ => some k_ ≠ (v183 : Value).ownBlock ∧ k_ ≠ gb175 ∧ k_ ≠ gb181 ∧ k_ ≠ gb187) (fun k_ => ((fun k_ => some k_ ≠ (v183 : Value).ownBlock ∧ k_ ≠ gb175 ∧ k_ ≠ gb181 ∧ k_ ≠ gb187)) k_ ∧ some k_ ≠ (v192 : Value).ownBlock) rfl rfl ?aO ?aR (fun _ hk => hk) ?aF ?aB ?aS ?aL ?_; (case aR => exact (by skip; exact Kd.N_F (Kd.N_mono (ok' := (fun k_ => ((fun k_ => some k_ ≠ (v183 : Value).ownBlock ∧ k_ ≠ gb175 ∧ k_ ≠ gb181 ∧ k_ ≠ gb187)) k_ ∧ some k_ ≠ (v192 : Value).ownBlock)) (HO_7.out) (fun k_ hk => ⟨⟨hk.1.2.1, ⟨hk.1.2.2.1, ⟨hk.1.2.2.2.1, hk.1.2.2.2.2⟩⟩⟩, hk.2⟩)))); (case aB => exact (bl3_ HB.out GE175.out GE181.out GE187.out)); (case aF => exact (fun k_ hk => ⟨Kd.fresh' (Kd.N_lt (rN_ HO184.out)) k_ hk, Kd.freshB (g := gb175) (o := .cells #[.int .i64 t173, .int .i64 t174] 26 (0, 0)) (bk_ BK175.out) k_ hk, Kd.freshB (g := gb181) (o := .cells #[.int .i64 t179, .int .i64 t180] 26 (0, 0)) (bk_ BK181.out) k_ hk, Kd.freshB (g := gb187) (o := .cells #[.int .i64 t185, .int .i64 t186] 26 (0, 0)) (bk_ BK187.out) k_ hk⟩)); (case aO => exact (by (with_reducible repeat (first | apply Kd.N_alloc | apply Kd.N_drewN | apply Kd.N_drew)); exact Kd.N_mono HO193.out (fun _ hk => ⟨hk.2.1, ⟨hk.2.2.1, ⟨hk.2.2.2.1, hk.2.2.2.2⟩⟩⟩))); (case aS => exact (below_size (bl3_ HB.out GE175.out GE181.out GE187.out))); (case aL => have := LMc30.out; omega); intro v195 w109 ho hb hg hat; rw [← Ny194.out] at ho; refine cut8_ (Kd.N_afterv (ok := (fun k_ => some k_ ≠ (.slice Ao110 t176.length co110 : Value).ownBlock ∧ some k_ ≠ (v183 : Value).ownBlock ∧ k_ ≠ gb175 ∧ k_ ≠ gb181 ∧ k_ ≠ gb187)) (rN_ HO_5.out) hg hat) (Kd.N_afterv (ok := (fun k_ => some k_ ≠ (.slice Ao108 t170.length co108 : Value).ownBlock ∧ some k_ ≠ (v183 : Value).ownBlock ∧ k_ ≠ gb175 ∧ k_ ≠ gb181 ∧ k_ ≠ gb187)) (rN_ HO_7.out) hg hat) (blk_grown (g := gb175) (o := .cells #[.int .i64 t173, .int .i64 t174] 26 (0, 0)) (bk_ BK175.out) hg (Kd.N_ne HO193.out BK175.out (by decide))) (blk_grown (g := gb181) (o := .cells #[.int .i64 t179, .int .i64 t180] 26 (0, 0)) (bk_ BK181.out) hg (Kd.N_ne HO193.out BK181.out (by decide))) (Kd.N_afterv (ok := (fun k_ => some k_ ≠ (.slice Ao108 t170.length co108 : Value).ownBlock ∧ some k_ ≠ (.slice Ao110 t176.length co110 : Value).ownBlock ∧ k_ ≠ gb175 ∧ k_ ≠ gb181 ∧ k_ ≠ gb187)) (rN_ HO184.out) hg hat) (blk_grown (g := gb187) (o := .cells #[.int .i64 t185, .int .i64 t186] 26 (0, 0)) (bk_ BK187.out) hg (Kd.N_ne HO193.out BK187.out (by decide))) (hb) (ho) ?_; clear HO_5 HO_7 BK175 BK181 HO184 BK187 HB HO193; intro HO_5 HO_7 BK175 BK181 HO184 BK187 HB HO196; clear ho hb hg hat; obtain ⟨hcz111_0, hcz111_1, hfz111_0, hfz111_1⟩ := cq2_ BK187.out))
             go_ret
             exact ⟨er_, bl3_ HB.out GE175.out GE181.out GE187.out⟩
           ·
            rw [if_neg c30] at H
            exact absurd H (by simp)
          ·
           rw [if_neg c29] at H
           exact absurd H (by simp)
         ·
          rw [if_neg c27] at H
          exact absurd H (by simp)
        ·
         rw [if_neg c26] at H
         exact absurd H (by simp)
 ·
  replace c4 := Bool.eq_false_iff.mpr c4
  subst c4
  have H1 : (some false) = some r := by rw [if_neg (show ¬ (false = true) by decide)] at H; exact H
  clear H
  have H := H1
  clear H1
  obtain rfl := Option.some.inj H
  go_enter Tryd.func5, Tryd.ntmps5
  go_wp2_with (first | ((with_reducible refine gate_callee (f := 21) rfl ?_); refine goesL_ (some 12) rfl rfl Tryd.func21 (by kernel_rfl) rfl #[] rfl ga_ ?_; (with_reducible refine (salchowlaw10_awake.calls k  false _ A3.out).mono ?_); rintro e w112 ⟨rfl, hb⟩; refine ⟨_, rfl, ?_⟩; refine cut1_ (below_step (bl_ HB.out) hb) ?_; clear HB; intro HB; (try clear hb); (try clear hb2); (try clear hk); (try clear hi)))
  go_ret
  exact ⟨er_, bl_ HB.out⟩
/-- THE ONE PURE STATEMENT of salchowlaw10_ParserConcats: yours. -/
def salchowlaw10_ParserConcats.Pure : Prop := ∀ (a0 : ByteArray) (a1 : ByteArray), a0.size ≤ 140737488351232 → a1.size ≤ 140737488351232 → ∃ k, salchowlaw10_ParserConcats.f k a0 a1 = some true
theorem salchowlaw10_ParserConcats.walk (P : salchowlaw10_ParserConcats.Pure) (a0 : ByteArray) (a1 : ByteArray) (w : World) (w0 : a0.size ≤ 140737488351232) (w1 : a1.size ≤ 140737488351232) :
  Calls Tryd.prog 5 #[.string a0, .string a1] w fun e w' => e = .returned (.bool true) ∧ Below w.heap.size w w' := by
 obtain ⟨k, h⟩ := P a0 a1 w0 w1
 refine (salchowlaw10_ParserConcats.calls k a0 a1 true w h).mono ?_
 rintro e w' ⟨rfl, hd⟩
 exact ⟨rfl, hd⟩
end Go.Proofs.YtkifdadhojbohaaDoor.Pr
namespace Go.Proofs.YtkifdadhojbohaaDoor.Pu
open Go.RowKit Go.Proofs.YtkifdadhojbohaaDoor Go.Proofs.YtkifdadhojbohaaDoor.Pr Go.Proofs.YtkifdadhojbohaaDoorW.PrintWords Go.Proofs.YtkifdadhojbohaaDoorW.PrintLast Go.Proofs.YtkifdadhojbohaaDoorW.PrintMore
theorem parserConcats : salchowlaw10_ParserConcats.Pure := by
  intro a b _ _
  apply Ev.rounds
  have key : a.size ≤ 700 → b.size ≤ 700 → Ev (fun k => salchowlaw10_ParserConcats.j0 k a b false) true := by
    intro ha hb
    obtain ⟨y, hy⟩ := PA.ex a
    obtain ⟨z, hz⟩ := PA.ex b
    refine Ev.succ ?_
    simp only [salchowlaw10_ParserConcats.j0]
    refine Ev.ifn (by simp) (Ev.bind (Parse_f a (by omega) hy) (Ev.bind (Parse_f b (by omega) hz) ?_))
    have skip : Ev (fun k => salchowlaw10_ParserConcats.j1 k a b y.1 z.1 true) true := by
      refine Ev.succ ?_
      simp only [salchowlaw10_ParserConcats.j1]
      exact Ev.ifp trivial (Ev.now _)
    by_cases hc : y.2.1 = 0
    · refine Ev.ifp hc ?_
      by_cases hd : z.2.1 = 0
      · obtain ⟨cs, c, p⟩ := y
        obtain rfl : c = 0 := hc
        obtain ⟨ds, d, q⟩ := z
        obtain rfl : d = 0 := hd
        obtain ⟨us, h1, h2, h3, h4, h5, h6, h7, h8, h9, rfl⟩ := hy.facts (by omega)
        obtain ⟨vs, k1, k2, k3_, k4, k5, k6, k7, k8, k9, rfl⟩ := hz.facts (by omega)
        have hsz : ((a ++ (⟨#[10]⟩ : ByteArray)) ++ b).size = a.size + 1 + b.size := by
          rw [ByteArray.size_append, ByteArray.size_append]; rfl
        have hl : lst ((a ++ (⟨#[10]⟩ : ByteArray)) ++ b) = lst a ++ 10 :: lst b := by
          rw [lst_append, lst_append]
          simp [lst]
        have hx : lexL (((a ++ (⟨#[10]⟩ : ByteArray)) ++ b).size + 1) (lst ((a ++ (⟨#[10]⟩ : ByteArray)) ++ b)) = .ok ((us.map (Tok.up ((lst b).length + 1)) ++ vs) ++ [endT]) := by
          rw [hl, lex_line (lst b) _ _ k1 (by rw [lst_length]; omega) _ (lst a) us (by rw [lst_length]; omega) h1 _ (by rw [hsz, List.length_append, List.length_cons, lst_length, lst_length]; omega)]
          simp
        have hkey : (us.map (Tok.up ((lst b).length + 1)) ++ vs).map Tok.key = (toksL (cs ++ ds)).map k3 := by
          rw [toks_append, List.map_append, List.map_append, ← PA.keys (by omega) h1 h2, ← PA.keys (by omega) k1 k2, List.map_map]
          rfl
        obtain ⟨es, g1, g2⟩ := PA_spelled _ (cs ++ ds) (by rw [form_append, h6, k6]; rfl) (by rw [dep_append]; omega) (by rw [sz_append]; omega) hx hkey
        have hm := g1.inv
        have hne : ((0 : Int) != 0) = false := rfl
        rw [hne]
        refine Ev.succ ?_
        simp only [salchowlaw10_ParserConcats.j1]
        have ha1 : (a ++ (⟨#[10]⟩ : ByteArray)).size = a.size + 1 := by rw [ByteArray.size_append]; rfl
        have l1 := len_le cs
        have l2 := len_le ds
        have n1 := cnt_le cs
        have n2 := cnt_le ds
        have s1 := sz_append cs ds
        refine Ev.ifn (by simp) (Ev.ifp (by omega) (Ev.ifp (by rw [ha1]; omega) (Ev.bind (Parse_f _ (by rw [hsz]; omega) g2) (Ev.val rfl (Ev.ifp (by simp; omega) (Ev.val rfl (Ev.ifp (by simp; omega) (Ev.val rfl (Ev.ifp rfl ?_)))))))))
        rw [List.nil_append]
        refine Ev.bind (Same_f g1) (Ev.ifp rfl (Ev.bind (Count_f _ (by omega)) (Ev.bind (Count_f cs (by omega)) (Ev.bind (Count_f ds (by omega)) (Ev.ifp ?_ (Ev.bind (Depth_f _ (by omega)) (Ev.bind (Depth_f cs (by omega)) (Ev.bind (Depth_f ds (by omega)) (Ev.ret ?_)))))))))
        · rw [cnt_append, wrap64_of (by omega) (by omega)]; omega
        · rw [beq_iff_eq, mx_nat, dep_append]
      · have e : (z.2.1 != 0) = true := by rw [bne_iff_ne]; exact hd
        rw [e]; exact skip
    · exact Ev.ifn hc skip
  have skip : Ev (fun k => salchowlaw10_ParserConcats.j0 k a b true) true := by
    refine Ev.succ ?_
    simp only [salchowlaw10_ParserConcats.j0]
    exact Ev.ifp trivial (Ev.now _)
  unfold salchowlaw10_ParserConcats.f
  refine Ev.bind awake10_f (Ev.ifp rfl ?_)
  by_cases ha : (a.size : Int) > 700
  · exact Ev.ifp ha skip
  · refine Ev.ifn ha ?_
    by_cases hb : (b.size : Int) > 700
    · rw [decide_eq_true hb]; exact skip
    · rw [decide_eq_false hb]; exact key (by omega) (by omega)
end Go.Proofs.YtkifdadhojbohaaDoor.Pu
namespace Go.Proofs.YtkifdadhojbohaaDoor.parserConcats
open Go.ChangeShapes Go.WideShapes Go.ChangeAt Go.RowKit Rk
open Go.ChangeMaps (open_string shut_string)
theorem c09 : (Rows.parserConcatsRow.inPlace == Tryd.prog.inPlace 5) = true := by kernel_rfl
theorem c10 : (Rows.parserConcatsRow.unfollowed == Tryd.prog.unfollowed 5) = true := by kernel_rfl
theorem c11 : (Rows.parserConcatsRow.recurses == Tryd.prog.recurses 5) = true := by kernel_rfl
theorem c12 : (Rows.parserConcatsRow.named == Tryd.prog.varsNamed 5) = true := by kernel_rfl
theorem facts : joinedFacts Tryd.prog 5 Tryd.f5 Rows.parserConcatsSpec Rows.parserConcatsRow = true :=
  facts_of _ _ _ _ _ (by kernel_rfl) out_ rowed_ (by kernel_rfl) (by kernel_rfl) rfl (by kernel_rfl) rfl (by kernel_rfl) c09 c10 c11 c12 (by kernel_rfl) (by kernel_rfl) (by kernel_rfl) (by kernel_rfl) (by kernel_rfl)
    (by kernel_rfl) (by kernel_rfl) (by kernel_rfl) (by kernel_rfl) (by kernel_rfl) (by kernel_rfl) heard_ enter_ (by kernel_rfl) (by kernel_rfl) (by kernel_rfl) (by kernel_rfl) (by kernel_rfl) (by kernel_rfl)
theorem goes : false = Rows.parserConcatsRow.goesBy Tryd.prog := by kernel_rfl
set_option maxRecDepth 100000 in
theorem lifted (os : Os) (started : os.Started) (H : Type) (enc : TypeId × Value → H) :
    ReturnsInHanded {} Tryd.checked os 5 .any (fun w args => (Rows.parserConcatsSpec.pre enc Tryd.prog Tryd.f5 [] false w args ∧ laidMetH Tryd.prog laidA w) ∧ sizedMet enc Tryd.prog Tryd.f5 (OpenSpec.ofChange Rows.parserConcatsSpec) false w args)
      (Rows.parserConcatsSpec.post enc Tryd.prog Tryd.f5 false true false false) := by
  refine returnsInHanded_of_change_and (C := Tryd.checked) (X := fun w _ => laidMetH Tryd.prog laidA w) (fun _ _ _ hh h => h.of_heap hh) own started (by kernel_rfl) Tryd.func5
    (ChangeSpec.witness_shaped (enc := enc) (C := Tryd.checked) (os := os) (X := fun w _ => laidMetH Tryd.prog laidA w) false (wA os) #[.string ByteArray.empty, .string ByteArray.empty] 8 (World.laidAll_os _ _ _)
      (World.shaped_of_ZipB (by kernel_rfl) (by kernel_rfl)) (by kernel_rfl) (by kernel_rfl) (by kernel_rfl) (met_A os _)) ?_
  intro W base args ds gs before hval0 hW _ hsz0 hL _
  have hsz : (DataW.weightsEach Tryd.prog (Tryd.f5.params.toList ++ Rows.parserConcatsSpec.plain.varTypes Tryd.prog) (ds ++ gs)).all (· ≤ reachBytes) = true := hsz0
  have hval : ∀ (j : Nat) t v, Tryd.f5.params[j]? = some t → args[j]? = some v → Value.okWide Tryd.prog W .any base t v := hval0
  have hW' := hW
  obtain ⟨p, q, hA0, hV, rfl, _, _⟩ := hW
  have hA : DataW.TrodAll enc Tryd.prog W 0 (fun _ => true) true Tryd.f5.params.toList args.toList ds p := hA0
  rw [Tryd.params5] at hA hval hsz
  obtain ⟨v0, vs0, d0, ds0, p0, q0, hargs, rfl, rfl, h0, r0⟩ := trodAll_cons hA
  obtain ⟨v1, vs1, d1, ds1, p1, q1, rfl, rfl, rfl, h1, r1⟩ := trodAll_cons r0
  obtain ⟨rfl, rfl, rfl⟩ := trodAll_nil r1
  obtain rfl : args = #[v0, v1] := by cases args; simp_all
  obtain ⟨rfl, rfl⟩ := trodVars_none hV
  obtain ⟨a0, rfl, rfl, rfl, y0⟩ := open_string Tryd.underlying9 (hval 0 9 v0 rfl rfl) h0
  have w0 : a0.size ≤ 140737488351232 := by
    have z := sized_string hsz (j := 0) (t := 9) rfl rfl
    rw [Array.length_toList] at z
    exact z
  obtain ⟨a1, rfl, rfl, rfl, y1⟩ := open_string Tryd.underlying9 (hval 1 9 v1 rfl rfl) h1
  have w1 : a1.size ≤ 140737488351232 := by
    have z := sized_string hsz (j := 1) (t := 9) rfl rfl
    rw [Array.length_toList] at z
    exact z
  clear hA0 hval0 hsz0 hsz
  refine (Pr.salchowlaw10_ParserConcats.walk Pu.parserConcats a0 a1 W  w0 w1).mono fun e W' ⟨he, bel⟩ => ?_
  subst he
  exact ⟨_, rfl, _, _, _, [], _, [], hW', trodAll_mk1 (shut_bool Tryd.underlying4 _), (trodAll_cons_mk (shut_string Tryd.underlying9 y0) (trodAll_cons_mk (shut_string Tryd.underlying9 y1) trodAll_mk0)), rfl, bel.frame _, fun h => by cases h⟩
theorem over : Rows.parserConcatsRow.holds Tryd.pinned (OpenSpec.ofChange Rows.parserConcatsSpec) :=
  OpenClaim.holds_of_wide 5 Tryd.f5 rfl rfl rfl rfl rfl rfl rfl ⟨rfl, rfl, rfl, rfl, rfl⟩ rfl rfl rfl rfl rfl (by kernel_rfl) Tryd.func5 facts
    (of_decide_eq_true (by kernel_rfl)) (by unfold Func.isWrapper; first | (rw [if_pos (by decide +kernel)]; kernel_rfl) | (rw [if_neg (by decide +kernel)]; exact ⟨rfl, rfl⟩))
    (fun os started H enc _ => lifted os started H enc)
theorem card : Rows.ParserConcatsCardSaid :=
  Claim7.holds_tied_plain_at .later [] [.data, .data, .data, .sentinel, .sentinel] true (true, "74d2011260c70b611c86c4d3b7f5d11cc5fefff18c715f175ff3522b41f9dd0c") true
    over (fun _ h => by cases h) (by kernel_rfl) (fun _ h => by cases h) parserConcats_row_tie rfl ⟨rfl, rfl⟩ mainIs_ rfl
    (fun f fn hf hfn => by
      obtain rfl : f = 5 := Option.some.inj ((show Tryd.prog.funcNamed "salchow/salchowlaw10.ParserConcats" = some 5 by kernel_rfl).symm.trans hf) |>.symm
      obtain rfl : fn = Tryd.f5 := (Option.some.inj (Tryd.func5.symm.trans hfn)).symm
      exact ⟨looks_, fun j t ht => by
        rw [Tryd.params5] at ht
        have hm : t ∈ [9, 9] := by simpa using Array.mem_of_getElem? ht
        have hall : ([9, 9].all fun u => !Tryd.prog.wantsStandIn u) = true := by kernel_rfl
        exact (show Tryd.prog.wantsStandIn t = false by simpa using List.all_eq_true.1 hall t hm)⟩)
    goes
#print axioms card
end Go.Proofs.YtkifdadhojbohaaDoor.parserConcats
