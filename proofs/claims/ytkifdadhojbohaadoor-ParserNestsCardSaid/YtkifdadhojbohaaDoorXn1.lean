/- Joined out of the texts of this proof that bear the names PrF7 PwKn RowParserNests: what each shows stands over it there. -/
import Derived.Test.YtkifdadhojbohaaDoorXk1
import Derived.Test.YtkifdadhojbohaaDoorXt1
import Derived.Test.YtkifdadhojbohaaDoorXa1
import Derived.Test.YtkifdadhojbohaaDoorXp1
import Derived.Test.YtkifdadhojbohaaDoorXr1
import Derived.Test.YtkifdadhojbohaaDoorCards
import Derived.Test.YtkifdadhojbohaaDoorTie
import Derived.WalkKit
import Derived.OpenShut
import Derived.ShutString
import Derived.ChangeOld
import Derived.SizedLaws
import Derived.SevenTiedAt
import Derived.Handed
import Derived.LaidLaws
set_option linter.unusedVariables false
set_option linter.unusedSimpArgs false
namespace Go.Proofs.YtkifdadhojbohaaDoor.Pr
open Go.Proofs.YtkifdadhojbohaaDoor
open Go.RowKit Go.Proofs.YtkifdadhojbohaaDoorW.PrintWords Go.Proofs.YtkifdadhojbohaaDoorW.PrintLast Go.Proofs.YtkifdadhojbohaaDoorW.PrintMore
attribute [local go_sem] max2_int min2_int max_two min_two max_three min_three max_four min_four   -- for this text's walks alone
set_option linter.unusedVariables false
set_option linter.unusedSimpArgs false
attribute [local go_sem high] eqA26
/-! ### salchowlaw10_ParserNests: function 7 -/
mutual
def salchowlaw10_ParserNests.j0 : Nat → Int → ByteArray → Bool → Option (Bool)
 | 0, _, _, _ => none
 | k + 1, x0, x1, x26 => if x26 = true then (some true) else ((parser_Parse.f k x1).bind fun bt444 => (if bt444.2.1 = 0 then ((parser_Parse.f k x1).bind fun bt450 => (salchowlaw10_ParserNests.l0 k x0 x1 bt450.1 (⟨#[]⟩ : ByteArray) 0)) else (some true)))
def salchowlaw10_ParserNests.l0 : Nat → Int → ByteArray → List (S41) → ByteArray → Int → Option (Bool)
 | 0, _, _, _, _, _ => none
 | k + 1, x0, x1, x7, x9, x10 => if x10 < x0 then (if x9.size + 2 ≤ 9223372036854775807 then (salchowlaw10_ParserNests.l0 k x0 x1 x7 (x9 ++ (⟨#[97, 123]⟩ : ByteArray)) (wrap64 (x10 + 1))) else (none)) else (if x1.size + 1 ≤ 9223372036854775807 then (if x9.size + (x1 ++ (⟨#[10]⟩ : ByteArray)).size ≤ 9223372036854775807 then (salchowlaw10_ParserNests.l1 k x0 x7 (x9 ++ (x1 ++ (⟨#[10]⟩ : ByteArray))) 0) else (none)) else (none))
def salchowlaw10_ParserNests.l1 : Nat → Int → List (S41) → ByteArray → Int → Option (Bool)
 | 0, _, _, _, _ => none
 | k + 1, x0, x7, x9, x11 => if x11 < x0 then (if x9.size + 1 ≤ 9223372036854775807 then (salchowlaw10_ParserNests.l1 k x0 x7 (x9 ++ (⟨#[125]⟩ : ByteArray)) (wrap64 (x11 + 1))) else (none)) else ((parser_Parse.f k x9).bind fun bt456 => (if x0 > 8 then (if (bt456.2.1 == 6 && (bt456.2.2 == 17)) = true then (some ((bt456.1.length : Int) == 0)) else (some false)) else ((parser_Depth.f k x7).bind fun t462 => (if (wrap64 (x0 + t462)) > 8 then (some (bt456.2.1 == 6)) else (if bt456.2.1 = 0 then ((parser_Depth.f k bt456.1).bind fun t463 => ((parser_Depth.f k x7).bind fun t464 => (if t463 = (wrap64 (x0 + t464)) then ((parser_Count.f k bt456.1).bind fun t465 => ((parser_Count.f k x7).bind fun t466 => (some (t465 == (wrap64 (x0 + t466)))))) else (some false)))) else (some false))))))
end
def salchowlaw10_ParserNests.f (k : Nat) (a0 : Int) (a1 : ByteArray) : Option (Bool) := (salchowlaw10_awake.f k).bind fun t443 => (if t443 = true then (if a0 < 0 then (salchowlaw10_ParserNests.j0 k a0 a1 true) else (if a0 > 20 then (salchowlaw10_ParserNests.j0 k a0 a1 true) else (salchowlaw10_ParserNests.j0 k a0 a1 (decide ((a1.size : Int) > 200))))) else (some false))
theorem salchowlaw10_ParserNests.mono_l : ∀ k, (∀ y0 y1 y2, LeO (salchowlaw10_ParserNests.j0 k y0 y1 y2) (salchowlaw10_ParserNests.j0 (k + 1) y0 y1 y2)) ∧ (∀ y0 y1 y2 y3 y4, LeO (salchowlaw10_ParserNests.l0 k y0 y1 y2 y3 y4) (salchowlaw10_ParserNests.l0 (k + 1) y0 y1 y2 y3 y4)) ∧ (∀ y0 y1 y2 y3, LeO (salchowlaw10_ParserNests.l1 k y0 y1 y2 y3) (salchowlaw10_ParserNests.l1 (k + 1) y0 y1 y2 y3))
 | 0 => ⟨fun _ _ _ r h => by simp [salchowlaw10_ParserNests.j0] at h, fun _ _ _ _ _ r h => by simp [salchowlaw10_ParserNests.l0] at h, fun _ _ _ _ r h => by simp [salchowlaw10_ParserNests.l1] at h⟩
 | k + 1 => by
  obtain ⟨ih0, ih1, ih2⟩ := salchowlaw10_ParserNests.mono_l k
  refine ⟨?_, ?_, ?_⟩
  ·
   intro y0 y1 y2
   unfold salchowlaw10_ParserNests.j0
   repeat' first
   | (with_reducible exact LeO.refl _)
   | exact ih0 _ _ _
   | exact ih1 _ _ _ _ _
   | exact ih2 _ _ _ _
   | exact parser_Count.mono _ _
   | exact parser_Depth.mono _ _
   | exact parser_Parse.mono _ _
   | exact salchowlaw10_awake.mono _
   | exact LeO.none _
   | refine LeO.ite ?_ ?_
   | refine LeO.bind ?_ (fun _ => ?_)
  ·
   intro y0 y1 y2 y3 y4
   unfold salchowlaw10_ParserNests.l0
   repeat' first
   | (with_reducible exact LeO.refl _)
   | exact ih0 _ _ _
   | exact ih1 _ _ _ _ _
   | exact ih2 _ _ _ _
   | exact parser_Count.mono _ _
   | exact parser_Depth.mono _ _
   | exact parser_Parse.mono _ _
   | exact salchowlaw10_awake.mono _
   | exact LeO.none _
   | refine LeO.ite ?_ ?_
   | refine LeO.bind ?_ (fun _ => ?_)
  ·
   intro y0 y1 y2 y3
   unfold salchowlaw10_ParserNests.l1
   repeat' first
   | (with_reducible exact LeO.refl _)
   | exact ih0 _ _ _
   | exact ih1 _ _ _ _ _
   | exact ih2 _ _ _ _
   | exact parser_Count.mono _ _
   | exact parser_Depth.mono _ _
   | exact parser_Parse.mono _ _
   | exact salchowlaw10_awake.mono _
   | exact LeO.none _
   | refine LeO.ite ?_ ?_
   | refine LeO.bind ?_ (fun _ => ?_)
theorem salchowlaw10_ParserNests.mono : ∀ a0 a1 k, LeO (salchowlaw10_ParserNests.f k a0 a1) (salchowlaw10_ParserNests.f (k + 1) a0 a1) := by
 intro a0 a1 k
 obtain ⟨ih0, ih1, ih2⟩ := salchowlaw10_ParserNests.mono_l k
 unfold salchowlaw10_ParserNests.f
 repeat' first
   | (with_reducible exact LeO.refl _)
   | exact ih0 _ _ _
   | exact ih1 _ _ _ _ _
   | exact ih2 _ _ _ _
   | exact parser_Count.mono _ _
   | exact parser_Depth.mono _ _
   | exact parser_Parse.mono _ _
   | exact salchowlaw10_awake.mono _
   | exact LeO.none _
   | refine LeO.ite ?_ ?_
   | refine LeO.bind ?_ (fun _ => ?_)
set_option maxHeartbeats 8000000 in
set_option maxRecDepth 100000 in
theorem salchowlaw10_ParserNests.calls (k : Nat) (a0 : Int) (a1 : ByteArray) (r : Bool) (w : World) (h : salchowlaw10_ParserNests.f k a0 a1 = some r) :
  Calls Tryd.prog 7 #[.int .i64 a0, .string a1] w fun e w' => e = .returned (.bool r) ∧ Below w.heap.size w w' := by
 have hu26 := Tryd.underlying26
 have HB := Aside0.mk (Below.refl w.heap.size w)
 have H : ((salchowlaw10_awake.f k).bind fun t443 => (if t443 = true then (if a0 < 0 then (salchowlaw10_ParserNests.j0 k a0 a1 true) else (if a0 > 20 then (salchowlaw10_ParserNests.j0 k a0 a1 true) else (salchowlaw10_ParserNests.j0 k a0 a1 (decide ((a1.size : Int) > 200))))) else (some false))) = some r := h
 clear h
 replace H := Option.bind_eq_some_iff.mp H
 obtain ⟨t443, A30, H⟩ := H
 (try dsimp only at H)
 have A3 := Aside0.mk A30
 clear A30
 by_cases c4 : t443 = true
 ·
  subst c4
  have H1 : (if a0 < 0 then (salchowlaw10_ParserNests.j0 k a0 a1 true) else (if a0 > 20 then (salchowlaw10_ParserNests.j0 k a0 a1 true) else (salchowlaw10_ParserNests.j0 k a0 a1 (decide ((a1.size : Int) > 200))))) = some r := by rw [if_pos rfl] at H; exact H
  clear H
  have H := H1
  clear H1
  have HC5 := Aside0.mk H
  clear H
  go_enter Tryd.func7, Tryd.ntmps7
  go_upto_region 3 with (first | ((with_reducible refine gate_callee (f := 21) rfl ?_); refine goesL_ (some 14) rfl rfl Tryd.func21 (by kernel_rfl) rfl #[] rfl ga_ ?_; (with_reducible refine (salchowlaw10_awake.calls k  true _ A3.out).mono ?_); rintro e w6 ⟨rfl, hb⟩; refine ⟨_, rfl, ?_⟩; have n0_ := Aside0.mk (below_step (bl_ HB.out) hb); clear HB; have HB := n0_; clear n0_; (try clear hb); (try clear hb2); (try clear hk); (try clear hi)))
  (try simp only [Act.put, List.setIfInBounds_toArray, List.set_cons_zero, List.set_cons_succ])
  go_cut [26] (fun v26 wc => ∃ (kq : Nat) (x26_4 : Bool), v26 = .bool x26_4 ∧ Aside0 (salchowlaw10_ParserNests.j0 kq a0 a1 x26_4 = some r) ∧ Aside0 (kq ≤ k) ∧ Aside0 (Below w.heap.size w wc))
  case first =>
   have H := HC5.out
   clear HC5
   by_cases c7 : a0 < 0
   ·
    rw [if_pos c7] at H
    have c7b0 := decide_eq_true c7
    clear c7
    (first | rw [c7b0] | (simp only [i64_w, i32_w]; rw [c7b0]) | skip)
    have H' := Aside0.mk H
    clear H
    go_wp2
    go_meet
    case rel => exact ⟨_, (true), sr_, H', ⟨by first | omega | exact Nat.le_refl _⟩, ⟨bl_ HB.out⟩⟩
   ·
    rw [if_neg c7] at H
    have c7b0 := decide_eq_false c7
    clear c7
    (first | rw [c7b0] | (simp only [i64_w, i32_w]; rw [c7b0]) | skip)
    by_cases c8 : a0 > 20
    ·
     rw [if_pos c8] at H
     have c8b0 := decide_eq_true c8
     clear c8
     have H' := Aside0.mk H
     clear H
     go_wp2
     go_meet
     case rel => exact ⟨_, (true), sr_, H', ⟨by first | omega | exact Nat.le_refl _⟩, ⟨bl_ HB.out⟩⟩
    ·
     rw [if_neg c8] at H
     have c8b0 := decide_eq_false c8
     clear c8
     have H' := Aside0.mk H
     clear H
     go_wp2
     go_meet
     case rel => exact ⟨_, (decide ((a1.size : Int) > 200)), sr_, H', ⟨by first | omega | exact Nat.le_refl _⟩, ⟨bl_ HB.out⟩⟩
  case rest =>
   clear HC5
   try clear c2
   try clear p2
   try clear c4
   try clear c7
   try clear c7b0
   try clear c8
   try clear c8b0
   obtain ⟨kq, x26_4, rfl, HA, HJ4, HB⟩ := hcut
   cases kq with
   | zero => exact absurd HA.out (by simp [salchowlaw10_ParserNests.j0])
   | succ kj4 =>
    have H := HA.out
    clear HA
    simp only [salchowlaw10_ParserNests.j0] at H
    by_cases c9 : x26_4 = true
    ·
     subst c9
     have H1 : (some true) = some r := by rw [if_pos rfl] at H; exact H
     clear H
     have H := H1
     clear H1
     obtain rfl := Option.some.inj H
     go_wp2
     go_ret
     exact ⟨er_, bl_ HB.out⟩
    ·
     replace c9 := Bool.eq_false_iff.mpr c9
     subst c9
     have H1 : ((parser_Parse.f kj4 a1).bind fun bt444 => (if bt444.2.1 = 0 then ((parser_Parse.f kj4 a1).bind fun bt450 => (salchowlaw10_ParserNests.l0 kj4 a0 a1 bt450.1 (⟨#[]⟩ : ByteArray) 0)) else (some true))) = some r := by rw [if_neg (show ¬ (false = true) by decide)] at H; exact H
     clear H
     have H := H1
     clear H1
     replace H := Option.bind_eq_some_iff.mp H
     obtain ⟨⟨t444, t447, t448⟩, A100, H⟩ := H
     (try dsimp only at H)
     have A10 := Aside0.mk A100
     clear A100
     by_cases c11 : t447 = 0
     ·
      rw [if_pos c11] at H
      have c11b0 := beq_iff_eq.mpr c11
      have c11b1 := bne_eq_false_iff_eq.mpr c11
      clear c11
      replace H := Option.bind_eq_some_iff.mp H
      obtain ⟨⟨t450, t453, t454⟩, A120, H⟩ := H
      (try dsimp only at H)
      have A12 := Aside0.mk A120
      clear A120
      have H' := Aside0.mk H
      clear H
      go_wp2_with (first | ((with_reducible refine gate_callee (f := 22) rfl ?_); refine goesL_ (some 29) rfl rfl Tryd.func22 (by kernel_rfl) rfl #[.string a1] rfl ga_ ?_; (with_reducible refine (parser_Parse.calls kj4 a1 t444 t447 t448 _ A10.out).mono ?_); rintro e w13 ⟨v445, rfl, ho0, hb⟩; refine ⟨_, rfl, ?_⟩; refine cut2_ (Kd.R_lower ho0 (below_size (bl_ HB.out))) (below_step (bl_ HB.out) hb) ?_; clear HB; intro HO446 HB; (try clear hb); (try clear hb2); (try clear hk); (try clear hi); (try clear ho0)) | ((with_reducible refine gate_dst (N := 6) rfl ?_); (try (refine gate_guard (by rfl) ?_; dsimp only)); refine bx_ (N := 6) (cs := #[.int .i64 0, .int .i64 0]) (t := 26) ?_; intro gb449 hg w14 hbox hb; refine cut5_ (Kd.R_below (rR_ HO446.out) hb) (below_step (bl_ HB.out) hb) (hbox) (bz_ (w := w) hg (bl_ HB.out)) (bz_ (w := w) hg (bl_ HB.out)) ?_; clear HO446 HB; intro HO446 HB BK449 GW449 GE449; clear hb hbox hg; obtain ⟨hcz15_0, hcz15_1, hfz15_0, hfz15_1⟩ := cq2_ BK449.out) | ((with_reducible refine gate_callee (f := 22) rfl ?_); refine goesL_ (some 37) rfl rfl Tryd.func22 (by kernel_rfl) rfl #[.string a1] rfl ga_ ?_; (with_reducible refine (parser_Parse.calls kj4 a1 t450 t453 t454 _ A12.out).mono ?_); rintro e w16 ⟨v451, rfl, ho0, hb⟩; refine ⟨_, rfl, ?_⟩; refine cut4_ (Kd.R_elder' (by (with_reducible repeat (first | apply Kd.R_alloc | apply Kd.R_drewN | apply Kd.R_drew)); exact (Kd.R_mono (Kd.R_far (p := ⟨gb449, 1, none⟩) (Kd.R_far (p := ⟨gb449, 0, none⟩) (Kd.R_types HO446.out BK449.out (by decide)) (fun _ hk => hk.2) (.int .i64 t447)) (fun _ hk => hk.2) (.int .i64 t448)) (fun _ h_ => h_.1))) (Kd.R_base ho0) hb) (Kd.R_lower (Kd.R_new' ho0 (Kd.R_lt (by (with_reducible repeat (first | apply Kd.R_alloc | apply Kd.R_drewN | apply Kd.R_drew)); exact (Kd.R_mono (Kd.R_far (p := ⟨gb449, 1, none⟩) (Kd.R_far (p := ⟨gb449, 0, none⟩) (Kd.R_types HO446.out BK449.out (by decide)) (fun _ hk => hk.2) (.int .i64 t447)) (fun _ hk => hk.2) (.int .i64 t448)) (fun _ h_ => h_.1))))) (below_size (bl1_ HB.out GE449.out))) (blk_below (g := gb449) (o := .cells #[.int .i64 t447, .int .i64 t448] 26 (0, 0)) (put2_ (bk_ BK449.out)) hb) (below_step (bl1_ HB.out GE449.out) hb) ?_; clear HO446 BK449 HB; intro HO446 HO452 BK449 HB; (try clear hb); (try clear hb2); (try clear hk); (try clear hi); (try clear ho0)) | ((with_reducible refine gate_dst (N := 8) rfl ?_); (try (refine gate_guard (by rfl) ?_; dsimp only)); refine bx_ (N := 8) (cs := #[.int .i64 0, .int .i64 0]) (t := 26) ?_; intro gb455 hg w17 hbox hb; refine cut9_ (Kd.R_below (rR_ HO446.out) hb) (Kd.R_below (rR_ HO452.out) hb) (bb_ BK449.out hb) (below_step (bl1_ HB.out GE449.out) hb) (hbox) (bz_ (w := w) hg (bl1_ HB.out GE449.out)) (bz_ (w := w) hg (bl1_ HB.out GE449.out)) (nl_ hg BK449.out) (ng_ hg BK449.out) ?_; clear HO446 HO452 BK449 HB; intro HO446 HO452 BK449 HB BK455 GW455 GE455 NB449_455 NB455_449; clear hb hbox hg; have hnb18 := NB455_449.out; have hnc18 := NB449_455.out; obtain ⟨hcz19_0, hcz19_1, hfz19_0, hfz19_1⟩ := cq2_ BK455.out))
      go_loopg [9, 10] kj4 (fun kq v9 v10 w' => ∃ (x9_2 : ByteArray) (x10_2 : Int), v9 = .string x9_2 ∧ v10 = .int .i64 x10_2 ∧ Aside0 (salchowlaw10_ParserNests.l0 kq a0 a1 t450 x9_2 x10_2 = some r) ∧ Aside0 (kq ≤ kj4) ∧ Aside0 (Kd.R k41 41 w' w.heap.size (fun _ => True) v451 t450) ∧ Aside0 (w'.heap[gb449]? = some (.cells #[.int .i64 t447, .int .i64 t448] 26 (0, 0))) ∧ Aside0 (w'.heap[gb455]? = some (.cells #[.int .i64 t453, .int .i64 t454] 26 (0, 0))) ∧ Aside0 (Below w.heap.size w w'))
      case atStart => exact ⟨((⟨#[]⟩ : ByteArray)), (0), sr_, sr_, H', ⟨Nat.le_refl _⟩, ⟨by (with_reducible repeat (first | apply Kd.R_alloc | apply Kd.R_drewN | apply Kd.R_drew)); exact Kd.R_mono (Kd.R_far (p := ⟨gb455, 1, none⟩) (Kd.R_far (p := ⟨gb455, 0, none⟩) (Kd.R_types HO452.out BK455.out (by decide)) (fun _ hk => hk.2) (.int .i64 t453)) (fun _ hk => hk.2) (.int .i64 t454)) (fun _ hk => trivial)⟩, ⟨by exact far2_ (bk_ BK449.out) NB449_455.out⟩, ⟨by exact put2_ (bk_ BK455.out)⟩, ⟨bl2_ HB.out GE449.out GE455.out⟩⟩
      case round =>
       clear H'
       try clear c1
       try clear c2
       try clear p2
       try clear c4
       try clear c7
       try clear c7b0
       try clear c8
       try clear c8b0
       try clear c9
       try clear c11
       try clear c11b0
       try clear c11b1
       try clear c18
       try clear hcz15_0
       try clear hcz15_1
       try clear hcz19_0
       try clear hcz19_1
       try clear hfz15_0
       try clear hfz15_1
       try clear hfz19_0
       try clear hfz19_1
       try clear p2
       obtain ⟨x9_2, x10_2, rfl, rfl, HA, HK2, HO_7, BK449, BK455, HB⟩ := hrel
       cases gk with
       | zero => exact absurd HA.out (by simp [salchowlaw10_ParserNests.l0])
       | succ k2 =>
        have H := HA.out
        clear HA
        simp only [salchowlaw10_ParserNests.l0] at H
        by_cases c20 : x10_2 < a0
        ·
         rw [if_pos c20] at H
         have c20b0 := decide_eq_true c20
         clear c20
         by_cases c21 : x9_2.size + 2 ≤ 9223372036854775807
         ·
          rw [if_pos c21] at H
          have c21b0 := eq_true c21
          have c21b1 := decide_eq_true c21
          try have c21b2 : (9223372036854775807 < x9_2.size + 2) = False := eq_false (Nat.not_lt.2 c21)
          have H' := Aside0.mk H
          clear H
          go_wp2
          go_roundg k2
          case measure => have := HJ4.out; have := HK2.out; omega
          case rel => exact ⟨(x9_2 ++ (⟨#[97, 123]⟩ : ByteArray)), (wrap64 (x10_2 + 1)), sr_, sr_, H', ⟨by have := HJ4.out; have := HK2.out; omega⟩, ⟨by (with_reducible repeat (first | apply Kd.R_alloc | apply Kd.R_drewN | apply Kd.R_drew)); exact HO_7.out⟩, ⟨by exact bk_ BK449.out⟩, ⟨by exact bk_ BK455.out⟩, ⟨bl2_ HB.out GE449.out GE455.out⟩⟩
         ·
          rw [if_neg c21] at H
          exact absurd H (by simp)
        ·
         rw [if_neg c20] at H
         have c20b0 := decide_eq_false c20
         clear c20
         by_cases c22 : a1.size + 1 ≤ 9223372036854775807
         ·
          rw [if_pos c22] at H
          have c22b0 := eq_true c22
          have c22b1 := decide_eq_true c22
          try have c22b2 : (9223372036854775807 < a1.size + 1) = False := eq_false (Nat.not_lt.2 c22)
          by_cases c23 : x9_2.size + (a1 ++ (⟨#[10]⟩ : ByteArray)).size ≤ 9223372036854775807
          ·
           rw [if_pos c23] at H
           have c23b0 := eq_true c23
           have c23b1 := decide_eq_true c23
           (try (have c23b3 : (9223372036854775807 < x9_2.size + a1.size + 1) = False := eq_false (Nat.not_lt.2 (by have h_ := c23; simp only [ByteArray.size_append] at h_; exact h_))))
           (try (have c23b4 : (x9_2.size + a1.size + 1 ≤ 9223372036854775807) = True := eq_true (by have h_ := c23; simp only [ByteArray.size_append] at h_; exact h_)))
           try have c23b2 : (9223372036854775807 < x9_2.size + (a1 ++ (⟨#[10]⟩ : ByteArray)).size) = False := eq_false (Nat.not_lt.2 c23)
           have H' := Aside0.mk H
           clear H
           go_wp2
           go_loopg [9, 11] k2 (fun kq v9 v11 w' => ∃ (x9_3 : ByteArray) (x11_3 : Int), v9 = .string x9_3 ∧ v11 = .int .i64 x11_3 ∧ Aside0 (salchowlaw10_ParserNests.l1 kq a0 t450 x9_3 x11_3 = some r) ∧ Aside0 (kq ≤ k2) ∧ Aside0 (Kd.R k41 41 w' w.heap.size (fun _ => True) v451 t450) ∧ Aside0 (w'.heap[gb449]? = some (.cells #[.int .i64 t447, .int .i64 t448] 26 (0, 0))) ∧ Aside0 (w'.heap[gb455]? = some (.cells #[.int .i64 t453, .int .i64 t454] 26 (0, 0))) ∧ Aside0 (Below w.heap.size w w'))
           case atStart => exact ⟨(x9_2 ++ (a1 ++ (⟨#[10]⟩ : ByteArray))), (0), sr_, sr_, H', ⟨Nat.le_refl _⟩, ⟨by (with_reducible repeat (first | apply Kd.R_alloc | apply Kd.R_drewN | apply Kd.R_drew)); exact HO_7.out⟩, ⟨by exact bk_ BK449.out⟩, ⟨by exact bk_ BK455.out⟩, ⟨bl2_ HB.out GE449.out GE455.out⟩⟩
           case round =>
            clear H'
            try clear c1
            try clear c2
            try clear p2
            try clear c4
            try clear p6
            try clear c7
            try clear c7b0
            try clear c8
            try clear c8b0
            try clear c9
            try clear c11
            try clear c11b0
            try clear c11b1
            try clear c18
            try clear c20
            try clear c20b0
            try clear c21
            try clear c21b0
            try clear c21b1
            try clear c21b2
            try clear c22
            try clear c22b0
            try clear c22b1
            try clear c22b2
            try clear c23
            try clear c23b0
            try clear c23b1
            try clear c23b2
            try clear hcz15_0
            try clear hcz15_1
            try clear hcz19_0
            try clear hcz19_1
            try clear hfz15_0
            try clear hfz15_1
            try clear hfz19_0
            try clear hfz19_1
            try clear p2
            obtain ⟨x9_3, x11_3, rfl, rfl, HA, HK3, HO_7, BK449, BK455, HB⟩ := hrel
            cases gk with
            | zero => exact absurd HA.out (by simp [salchowlaw10_ParserNests.l1])
            | succ k3 =>
             have H := HA.out
             clear HA
             simp only [salchowlaw10_ParserNests.l1] at H
             by_cases c24 : x11_3 < a0
             ·
              rw [if_pos c24] at H
              have c24b0 := decide_eq_true c24
              clear c24
              by_cases c25 : x9_3.size + 1 ≤ 9223372036854775807
              ·
               rw [if_pos c25] at H
               have c25b0 := eq_true c25
               have c25b1 := decide_eq_true c25
               try have c25b2 : (9223372036854775807 < x9_3.size + 1) = False := eq_false (Nat.not_lt.2 c25)
               have H' := Aside0.mk H
               clear H
               go_wp2
               go_roundg k3
               case measure => have := HJ4.out; have := HK2.out; have := HK3.out; omega
               case rel => exact ⟨(x9_3 ++ (⟨#[125]⟩ : ByteArray)), (wrap64 (x11_3 + 1)), sr_, sr_, H', ⟨by have := HJ4.out; have := HK2.out; have := HK3.out; omega⟩, ⟨by (with_reducible repeat (first | apply Kd.R_alloc | apply Kd.R_drewN | apply Kd.R_drew)); exact HO_7.out⟩, ⟨by exact bk_ BK449.out⟩, ⟨by exact bk_ BK455.out⟩, ⟨bl2_ HB.out GE449.out GE455.out⟩⟩
              ·
               rw [if_neg c25] at H
               exact absurd H (by simp)
             ·
              rw [if_neg c24] at H
              have c24b0 := decide_eq_false c24
              clear c24
              replace H := Option.bind_eq_some_iff.mp H
              obtain ⟨⟨t456, t459, t460⟩, A260, H⟩ := H
              (try dsimp only at H)
              have A26 := Aside0.mk A260
              clear A260
              by_cases c27 : a0 > 8
              ·
               rw [if_pos c27] at H
               have c27b0 := decide_eq_true c27
               clear c27
               by_cases c28 : (t459 == 6 && (t460 == 17)) = true
               ·
                rw [if_pos c28] at H
                have c28b0 : (t459 == 6 && (t460 == 17)) = true := c28
                (try (have c28b1 : decide (t459 = 6 && (t460 == 17)) = true := by simpa using c28))
                (try (have c28b2 : (t459 == 6 && (t460 == 17)) = true := by simpa using c28))
                clear c28
                obtain rfl := Option.some.inj H
                go_wp2_with (first | ((with_reducible refine gate_callee (f := 22) rfl ?_); refine goesL_ (some 60) rfl rfl Tryd.func22 (by kernel_rfl) rfl #[.string x9_3] rfl ga_ ?_; (with_reducible refine (parser_Parse.calls k3 x9_3 t456 t459 t460 _ A26.out).mono ?_); rintro e w29 ⟨v457, rfl, ho0, hb⟩; refine ⟨_, rfl, ?_⟩; refine cut5_ (Kd.R_elder' (rR_ HO_7.out) (Kd.R_base ho0) hb) (Kd.R_lower (Kd.R_new' ho0 (Kd.R_lt (rR_ HO_7.out))) (below_size (bl2_ HB.out GE449.out GE455.out))) (bb_ BK449.out hb) (bb_ BK455.out hb) (below_step (bl2_ HB.out GE449.out GE455.out) hb) ?_; clear HO_7 BK449 BK455 HB; intro HO_7 HO458 BK449 BK455 HB; (try clear hb); (try clear hb2); (try clear hk); (try clear hi); (try clear ho0)) | ((with_reducible refine gate_dst (N := 13) rfl ?_); (try (refine gate_guard (by rfl) ?_; dsimp only)); refine bx_ (N := 13) (cs := #[.int .i64 0, .int .i64 0]) (t := 26) ?_; intro gb461 hg w30 hbox hb; refine cut12_ (Kd.R_below (rR_ HO_7.out) hb) (Kd.R_below (rR_ HO458.out) hb) (bb_ BK449.out hb) (bb_ BK455.out hb) (below_step (bl2_ HB.out GE449.out GE455.out) hb) (hbox) (bz_ (w := w) hg (bl2_ HB.out GE449.out GE455.out)) (bz_ (w := w) hg (bl2_ HB.out GE449.out GE455.out)) (nl_ hg BK449.out) (ng_ hg BK449.out) (nl_ hg BK455.out) (ng_ hg BK455.out) ?_; clear HO_7 HO458 BK449 BK455 HB; intro HO_7 HO458 BK449 BK455 HB BK461 GW461 GE461 NB449_461 NB461_449 NB455_461 NB461_455; clear hb hbox hg; have hnb31 := NB461_449.out; have hnc31 := NB449_461.out; have hnb32 := NB461_455.out; have hnc32 := NB455_461.out; obtain ⟨hcz33_0, hcz33_1, hfz33_0, hfz33_1⟩ := cq2_ BK461.out; obtain ⟨Ao34, co34, eo34⟩ := Kd.R_slice HO458.out; subst eo34))
                go_ret
                exact ⟨er_, bl3_ HB.out GE449.out GE455.out GE461.out⟩
               ·
                rw [if_neg c28] at H
                have c28b0 : (t459 == 6 && (t460 == 17)) = false := by simpa using c28
                (try (have c28b1 : decide (t459 = 6 && (t460 == 17)) = false := by simpa using c28))
                (try (have c28b2 : (t459 == 6 && (t460 == 17)) = false := by simpa using c28))
                (try (have c28b3 : ¬ (t459 = 6 && (t460 == 17)) := by simpa using c28))
                clear c28
                obtain rfl := Option.some.inj H
                go_wp2_with (first | ((with_reducible refine gate_callee (f := 22) rfl ?_); refine goesL_ (some 60) rfl rfl Tryd.func22 (by kernel_rfl) rfl #[.string x9_3] rfl ga_ ?_; (with_reducible refine (parser_Parse.calls k3 x9_3 t456 t459 t460 _ A26.out).mono ?_); rintro e w35 ⟨v457, rfl, ho0, hb⟩; refine ⟨_, rfl, ?_⟩; refine cut5_ (Kd.R_elder' (rR_ HO_7.out) (Kd.R_base ho0) hb) (Kd.R_lower (Kd.R_new' ho0 (Kd.R_lt (rR_ HO_7.out))) (below_size (bl2_ HB.out GE449.out GE455.out))) (bb_ BK449.out hb) (bb_ BK455.out hb) (below_step (bl2_ HB.out GE449.out GE455.out) hb) ?_; clear HO_7 BK449 BK455 HB; intro HO_7 HO458 BK449 BK455 HB; (try clear hb); (try clear hb2); (try clear hk); (try clear hi); (try clear ho0)) | ((with_reducible refine gate_dst (N := 13) rfl ?_); (try (refine gate_guard (by rfl) ?_; dsimp only)); refine bx_ (N := 13) (cs := #[.int .i64 0, .int .i64 0]) (t := 26) ?_; intro gb461 hg w36 hbox hb; refine cut12_ (Kd.R_below (rR_ HO_7.out) hb) (Kd.R_below (rR_ HO458.out) hb) (bb_ BK449.out hb) (bb_ BK455.out hb) (below_step (bl2_ HB.out GE449.out GE455.out) hb) (hbox) (bz_ (w := w) hg (bl2_ HB.out GE449.out GE455.out)) (bz_ (w := w) hg (bl2_ HB.out GE449.out GE455.out)) (nl_ hg BK449.out) (ng_ hg BK449.out) (nl_ hg BK455.out) (ng_ hg BK455.out) ?_; clear HO_7 HO458 BK449 BK455 HB; intro HO_7 HO458 BK449 BK455 HB BK461 GW461 GE461 NB449_461 NB461_449 NB455_461 NB461_455; clear hb hbox hg; have hnb37 := NB461_449.out; have hnc37 := NB449_461.out; have hnb38 := NB461_455.out; have hnc38 := NB455_461.out; obtain ⟨hcz39_0, hcz39_1, hfz39_0, hfz39_1⟩ := cq2_ BK461.out))
                go_ret
                exact ⟨er_, bl3_ HB.out GE449.out GE455.out GE461.out⟩
              ·
               rw [if_neg c27] at H
               have c27b0 := decide_eq_false c27
               clear c27
               replace H := Option.bind_eq_some_iff.mp H
               obtain ⟨t462, A400, H⟩ := H
               (try dsimp only at H)
               have A40 := Aside0.mk A400
               clear A400
               by_cases c41 : (wrap64 (a0 + t462)) > 8
               ·
                rw [if_pos c41] at H
                have c41b0 := decide_eq_true c41
                clear c41
                obtain rfl := Option.some.inj H
                go_wp2_with (first | ((with_reducible refine gate_callee (f := 22) rfl ?_); refine goesL_ (some 60) rfl rfl Tryd.func22 (by kernel_rfl) rfl #[.string x9_3] rfl ga_ ?_; (with_reducible refine (parser_Parse.calls k3 x9_3 t456 t459 t460 _ A26.out).mono ?_); rintro e w42 ⟨v457, rfl, ho0, hb⟩; refine ⟨_, rfl, ?_⟩; refine cut5_ (Kd.R_elder' (rR_ HO_7.out) (Kd.R_base ho0) hb) (Kd.R_lower (Kd.R_new' ho0 (Kd.R_lt (rR_ HO_7.out))) (below_size (bl2_ HB.out GE449.out GE455.out))) (bb_ BK449.out hb) (bb_ BK455.out hb) (below_step (bl2_ HB.out GE449.out GE455.out) hb) ?_; clear HO_7 BK449 BK455 HB; intro HO_7 HO458 BK449 BK455 HB; (try clear hb); (try clear hb2); (try clear hk); (try clear hi); (try clear ho0)) | ((with_reducible refine gate_dst (N := 13) rfl ?_); (try (refine gate_guard (by rfl) ?_; dsimp only)); refine bx_ (N := 13) (cs := #[.int .i64 0, .int .i64 0]) (t := 26) ?_; intro gb461 hg w43 hbox hb; refine cut12_ (Kd.R_below (rR_ HO_7.out) hb) (Kd.R_below (rR_ HO458.out) hb) (bb_ BK449.out hb) (bb_ BK455.out hb) (below_step (bl2_ HB.out GE449.out GE455.out) hb) (hbox) (bz_ (w := w) hg (bl2_ HB.out GE449.out GE455.out)) (bz_ (w := w) hg (bl2_ HB.out GE449.out GE455.out)) (nl_ hg BK449.out) (ng_ hg BK449.out) (nl_ hg BK455.out) (ng_ hg BK455.out) ?_; clear HO_7 HO458 BK449 BK455 HB; intro HO_7 HO458 BK449 BK455 HB BK461 GW461 GE461 NB449_461 NB461_449 NB455_461 NB461_455; clear hb hbox hg; have hnb44 := NB461_449.out; have hnc44 := NB449_461.out; have hnb45 := NB461_455.out; have hnc45 := NB455_461.out; obtain ⟨hcz46_0, hcz46_1, hfz46_0, hfz46_1⟩ := cq2_ BK461.out; obtain ⟨Ao47, co47, eo47⟩ := Kd.R_slice HO_7.out; subst eo47) | ((with_reducible refine gate_callee (f := 31) rfl ?_); refine goesL_ (some 75) rfl rfl Tryd.func31 (by kernel_rfl) rfl #[.slice Ao47 t450.length co47] rfl ga_ ?_; (with_reducible refine (parser_Depth.calls k3 _ _ t450 t462 _ ?side1 ?side2 A40.out).mono ?_); (case side1 => refine (Kd.R_reads' (e := 41) (base := w.heap.size) (ok := fun k_ => (True ∧ some k_ ≠ (v457 : Value).ownBlock)) (n := t450.length) (c := co47) ?_).2.2; exact (by (with_reducible repeat (first | apply Kd.R_alloc | apply Kd.R_drewN | apply Kd.R_drew)); exact (Kd.R_mono (Kd.R_far (p := ⟨gb461, 1, none⟩) (Kd.R_far (p := ⟨gb461, 0, none⟩) (Kd.R_types HO_7.out BK461.out (by decide)) (fun _ hk => hk.2) (.int .i64 t459)) (fun _ hk => hk.2) (.int .i64 t460)) (fun _ h_ => h_.1)))); (case side2 => exact (Kd.R_reads' HO_7.out).2.1); rintro e w48 ⟨rfl, hb⟩; refine ⟨_, rfl, ?_⟩; refine cut6_ (Kd.R_below (by (with_reducible repeat (first | apply Kd.R_alloc | apply Kd.R_drewN | apply Kd.R_drew)); exact (Kd.R_mono (Kd.R_far (p := ⟨gb461, 1, none⟩) (Kd.R_far (p := ⟨gb461, 0, none⟩) (Kd.R_types HO_7.out BK461.out (by decide)) (fun _ hk => hk.2) (.int .i64 t459)) (fun _ hk => hk.2) (.int .i64 t460)) (fun _ h_ => h_.1))) hb) (Kd.R_below (by (with_reducible repeat (first | apply Kd.R_alloc | apply Kd.R_drewN | apply Kd.R_drew)); exact (Kd.R_mono (Kd.R_far (p := ⟨gb461, 1, none⟩) (Kd.R_far (p := ⟨gb461, 0, none⟩) (Kd.R_types HO458.out BK461.out (by decide)) (fun _ hk => hk.2) (.int .i64 t459)) (fun _ hk => hk.2) (.int .i64 t460)) (fun _ h_ => h_.1))) hb) (blk_below (g := gb449) (o := .cells #[.int .i64 t447, .int .i64 t448] 26 (0, 0)) (far2_ (bk_ BK449.out) NB449_461.out) hb) (blk_below (g := gb455) (o := .cells #[.int .i64 t453, .int .i64 t454] 26 (0, 0)) (far2_ (bk_ BK455.out) NB455_461.out) hb) (blk_below (g := gb461) (o := .cells #[.int .i64 t459, .int .i64 t460] 26 (0, 0)) (put2_ (bk_ BK461.out)) hb) (below_step (bl3_ HB.out GE449.out GE455.out GE461.out) hb) ?_; clear HO_7 HO458 BK449 BK455 BK461 HB; intro HO_7 HO458 BK449 BK455 BK461 HB; (try clear hb); (try clear hb2); (try clear hk); (try clear hi); obtain ⟨hcz49_0, hcz49_1, hfz49_0, hfz49_1⟩ := cq2_ BK461.out))
                go_ret
                exact ⟨er_, bl3_ HB.out GE449.out GE455.out GE461.out⟩
               ·
                rw [if_neg c41] at H
                have c41b0 := decide_eq_false c41
                clear c41
                by_cases c50 : t459 = 0
                ·
                 rw [if_pos c50] at H
                 have c50b0 := beq_iff_eq.mpr c50
                 have c50b1 := bne_eq_false_iff_eq.mpr c50
                 clear c50
                 replace H := Option.bind_eq_some_iff.mp H
                 obtain ⟨t463, A510, H⟩ := H
                 (try dsimp only at H)
                 have A51 := Aside0.mk A510
                 clear A510
                 replace H := Option.bind_eq_some_iff.mp H
                 obtain ⟨t464, A520, H⟩ := H
                 (try dsimp only at H)
                 have A52 := Aside0.mk A520
                 clear A520
                 by_cases c53 : t463 = (wrap64 (a0 + t464))
                 ·
                  rw [if_pos c53] at H
                  have c53b0 := beq_iff_eq.mpr c53
                  have c53b1 := bne_eq_false_iff_eq.mpr c53
                  clear c53
                  replace H := Option.bind_eq_some_iff.mp H
                  obtain ⟨t465, A540, H⟩ := H
                  (try dsimp only at H)
                  have A54 := Aside0.mk A540
                  clear A540
                  replace H := Option.bind_eq_some_iff.mp H
                  obtain ⟨t466, A550, H⟩ := H
                  (try dsimp only at H)
                  have A55 := Aside0.mk A550
                  clear A550
                  obtain rfl := Option.some.inj H
                  go_wp2_with (first | ((with_reducible refine gate_callee (f := 22) rfl ?_); refine goesL_ (some 60) rfl rfl Tryd.func22 (by kernel_rfl) rfl #[.string x9_3] rfl ga_ ?_; (with_reducible refine (parser_Parse.calls k3 x9_3 t456 t459 t460 _ A26.out).mono ?_); rintro e w56 ⟨v457, rfl, ho0, hb⟩; refine ⟨_, rfl, ?_⟩; refine cut5_ (Kd.R_elder' (rR_ HO_7.out) (Kd.R_base ho0) hb) (Kd.R_lower (Kd.R_new' ho0 (Kd.R_lt (rR_ HO_7.out))) (below_size (bl2_ HB.out GE449.out GE455.out))) (bb_ BK449.out hb) (bb_ BK455.out hb) (below_step (bl2_ HB.out GE449.out GE455.out) hb) ?_; clear HO_7 BK449 BK455 HB; intro HO_7 HO458 BK449 BK455 HB; (try clear hb); (try clear hb2); (try clear hk); (try clear hi); (try clear ho0)) | ((with_reducible refine gate_dst (N := 13) rfl ?_); (try (refine gate_guard (by rfl) ?_; dsimp only)); refine bx_ (N := 13) (cs := #[.int .i64 0, .int .i64 0]) (t := 26) ?_; intro gb461 hg w57 hbox hb; refine cut12_ (Kd.R_below (rR_ HO_7.out) hb) (Kd.R_below (rR_ HO458.out) hb) (bb_ BK449.out hb) (bb_ BK455.out hb) (below_step (bl2_ HB.out GE449.out GE455.out) hb) (hbox) (bz_ (w := w) hg (bl2_ HB.out GE449.out GE455.out)) (bz_ (w := w) hg (bl2_ HB.out GE449.out GE455.out)) (nl_ hg BK449.out) (ng_ hg BK449.out) (nl_ hg BK455.out) (ng_ hg BK455.out) ?_; clear HO_7 HO458 BK449 BK455 HB; intro HO_7 HO458 BK449 BK455 HB BK461 GW461 GE461 NB449_461 NB461_449 NB455_461 NB461_455; clear hb hbox hg; have hnb58 := NB461_449.out; have hnc58 := NB449_461.out; have hnb59 := NB461_455.out; have hnc59 := NB455_461.out; obtain ⟨hcz60_0, hcz60_1, hfz60_0, hfz60_1⟩ := cq2_ BK461.out; obtain ⟨Ao61, co61, eo61⟩ := Kd.R_slice HO_7.out; subst eo61) | ((with_reducible refine gate_callee (f := 31) rfl ?_); refine goesL_ (some 75) rfl rfl Tryd.func31 (by kernel_rfl) rfl #[.slice Ao61 t450.length co61] rfl ga_ ?_; (with_reducible refine (parser_Depth.calls k3 _ _ t450 t462 _ ?side1 ?side2 A40.out).mono ?_); (case side1 => refine (Kd.R_reads' (e := 41) (base := w.heap.size) (ok := fun k_ => (True ∧ some k_ ≠ (v457 : Value).ownBlock)) (n := t450.length) (c := co61) ?_).2.2; exact (by (with_reducible repeat (first | apply Kd.R_alloc | apply Kd.R_drewN | apply Kd.R_drew)); exact (Kd.R_mono (Kd.R_far (p := ⟨gb461, 1, none⟩) (Kd.R_far (p := ⟨gb461, 0, none⟩) (Kd.R_types HO_7.out BK461.out (by decide)) (fun _ hk => hk.2) (.int .i64 t459)) (fun _ hk => hk.2) (.int .i64 t460)) (fun _ h_ => h_.1)))); (case side2 => exact (Kd.R_reads' HO_7.out).2.1); rintro e w62 ⟨rfl, hb⟩; refine ⟨_, rfl, ?_⟩; refine cut6_ (Kd.R_below (by (with_reducible repeat (first | apply Kd.R_alloc | apply Kd.R_drewN | apply Kd.R_drew)); exact (Kd.R_mono (Kd.R_far (p := ⟨gb461, 1, none⟩) (Kd.R_far (p := ⟨gb461, 0, none⟩) (Kd.R_types HO_7.out BK461.out (by decide)) (fun _ hk => hk.2) (.int .i64 t459)) (fun _ hk => hk.2) (.int .i64 t460)) (fun _ h_ => h_.1))) hb) (Kd.R_below (by (with_reducible repeat (first | apply Kd.R_alloc | apply Kd.R_drewN | apply Kd.R_drew)); exact (Kd.R_mono (Kd.R_far (p := ⟨gb461, 1, none⟩) (Kd.R_far (p := ⟨gb461, 0, none⟩) (Kd.R_types HO458.out BK461.out (by decide)) (fun _ hk => hk.2) (.int .i64 t459)) (fun _ hk => hk.2) (.int .i64 t460)) (fun _ h_ => h_.1))) hb) (blk_below (g := gb449) (o := .cells #[.int .i64 t447, .int .i64 t448] 26 (0, 0)) (far2_ (bk_ BK449.out) NB449_461.out) hb) (blk_below (g := gb455) (o := .cells #[.int .i64 t453, .int .i64 t454] 26 (0, 0)) (far2_ (bk_ BK455.out) NB455_461.out) hb) (blk_below (g := gb461) (o := .cells #[.int .i64 t459, .int .i64 t460] 26 (0, 0)) (put2_ (bk_ BK461.out)) hb) (below_step (bl3_ HB.out GE449.out GE455.out GE461.out) hb) ?_; clear HO_7 HO458 BK449 BK455 BK461 HB; intro HO_7 HO458 BK449 BK455 BK461 HB; (try clear hb); (try clear hb2); (try clear hk); (try clear hi); obtain ⟨hcz63_0, hcz63_1, hfz63_0, hfz63_1⟩ := cq2_ BK461.out; obtain ⟨Ao64, co64, eo64⟩ := Kd.R_slice HO458.out; subst eo64) | (go_at_call 31; (with_reducible refine (parser_Depth.calls k3 _ _ t456 t463 _ ?side1 ?side2 A51.out).mono ?_); (case side1 => repeat (first | exact (Kd.R_reads' HO458.out).2.2 | (with_reducible refine Kd.C_alloc ?_ _) | (with_reducible refine Kd.C_drewN ?_ _) | (with_reducible refine Kd.C_drew ?_))); (case side2 => exact (Kd.R_reads' HO458.out).2.1); rintro e w65 ⟨rfl, hb⟩; refine cut6_ (Kd.R_below (rR_ HO_7.out) hb) (Kd.R_below (rR_ HO458.out) hb) (bb_ BK449.out hb) (bb_ BK455.out hb) (bb_ BK461.out hb) (below_step (bl3_ HB.out GE449.out GE455.out GE461.out) hb) ?_; clear HO_7 HO458 BK449 BK455 BK461 HB; intro HO_7 HO458 BK449 BK455 BK461 HB; (try clear hb); (try clear hb2); (try clear hk); (try clear hi)) | (go_at_call 31; (with_reducible refine (parser_Depth.calls k3 _ _ t450 t464 _ ?side1 ?side2 A52.out).mono ?_); (case side1 => repeat (first | exact (Kd.R_reads' HO_7.out).2.2 | (with_reducible refine Kd.C_alloc ?_ _) | (with_reducible refine Kd.C_drewN ?_ _) | (with_reducible refine Kd.C_drew ?_))); (case side2 => exact (Kd.R_reads' HO_7.out).2.1); rintro e w66 ⟨rfl, hb⟩; refine cut6_ (Kd.R_below (rR_ HO_7.out) hb) (Kd.R_below (rR_ HO458.out) hb) (bb_ BK449.out hb) (bb_ BK455.out hb) (bb_ BK461.out hb) (below_step (bl3_ HB.out GE449.out GE455.out GE461.out) hb) ?_; clear HO_7 HO458 BK449 BK455 BK461 HB; intro HO_7 HO458 BK449 BK455 BK461 HB; (try clear hb); (try clear hb2); (try clear hk); (try clear hi)) | (go_at_call 30; (with_reducible refine (parser_Count.calls k3 _ _ t456 t465 _ ?side1 ?side2 A54.out).mono ?_); (case side1 => repeat (first | exact (Kd.R_reads' HO458.out).2.2 | (with_reducible refine Kd.C_alloc ?_ _) | (with_reducible refine Kd.C_drewN ?_ _) | (with_reducible refine Kd.C_drew ?_))); (case side2 => exact (Kd.R_reads' HO458.out).2.1); rintro e w67 ⟨rfl, hb⟩; refine cut6_ (Kd.R_below (rR_ HO_7.out) hb) (Kd.R_below (rR_ HO458.out) hb) (bb_ BK449.out hb) (bb_ BK455.out hb) (bb_ BK461.out hb) (below_step (bl3_ HB.out GE449.out GE455.out GE461.out) hb) ?_; clear HO_7 HO458 BK449 BK455 BK461 HB; intro HO_7 HO458 BK449 BK455 BK461 HB; (try clear hb); (try clear hb2); (try clear hk); (try clear hi)) | (go_at_call 30; (with_reducible refine (parser_Count.calls k3 _ _ t450 t466 _ ?side1 ?side2 A55.out).mono ?_); (case side1 => repeat (first | exact (Kd.R_reads' HO_7.out).2.2 | (with_reducible refine Kd.C_alloc ?_ _) | (with_reducible refine Kd.C_drewN ?_ _) | (with_reducible refine Kd.C_drew ?_))); (case side2 => exact (Kd.R_reads' HO_7.out).2.1); rintro e w68 ⟨rfl, hb⟩; refine cut6_ (Kd.R_below (rR_ HO_7.out) hb) (Kd.R_below (rR_ HO458.out) hb) (bb_ BK449.out hb) (bb_ BK455.out hb) (bb_ BK461.out hb) (below_step (bl3_ HB.out GE449.out GE455.out GE461.out) hb) ?_; clear HO_7 HO458 BK449 BK455 BK461 HB; intro HO_7 HO458 BK449 BK455 BK461 HB; (try clear hb); (try clear hb2); (try clear hk); (try clear hi)))
                  go_ret
                  exact ⟨er_, bl3_ HB.out GE449.out GE455.out GE461.out⟩
                 ·
                  rw [if_neg c53] at H
                  have c53b0 := beq_eq_false_iff_ne.mpr c53
                  have c53b1 := bne_iff_ne.mpr c53
                  obtain rfl := Option.some.inj H
                  go_wp2_with (first | ((with_reducible refine gate_callee (f := 22) rfl ?_); refine goesL_ (some 60) rfl rfl Tryd.func22 (by kernel_rfl) rfl #[.string x9_3] rfl ga_ ?_; (with_reducible refine (parser_Parse.calls k3 x9_3 t456 t459 t460 _ A26.out).mono ?_); rintro e w69 ⟨v457, rfl, ho0, hb⟩; refine ⟨_, rfl, ?_⟩; refine cut5_ (Kd.R_elder' (rR_ HO_7.out) (Kd.R_base ho0) hb) (Kd.R_lower (Kd.R_new' ho0 (Kd.R_lt (rR_ HO_7.out))) (below_size (bl2_ HB.out GE449.out GE455.out))) (bb_ BK449.out hb) (bb_ BK455.out hb) (below_step (bl2_ HB.out GE449.out GE455.out) hb) ?_; clear HO_7 BK449 BK455 HB; intro HO_7 HO458 BK449 BK455 HB; (try clear hb); (try clear hb2); (try clear hk); (try clear hi); (try clear ho0)) | ((with_reducible refine gate_dst (N := 13) rfl ?_); (try (refine gate_guard (by rfl) ?_; dsimp only)); refine bx_ (N := 13) (cs := #[.int .i64 0, .int .i64 0]) (t := 26) ?_; intro gb461 hg w70 hbox hb; refine cut12_ (Kd.R_below (rR_ HO_7.out) hb) (Kd.R_below (rR_ HO458.out) hb) (bb_ BK449.out hb) (bb_ BK455.out hb) (below_step (bl2_ HB.out GE449.out GE455.out) hb) (hbox) (bz_ (w := w) hg (bl2_ HB.out GE449.out GE455.out)) (bz_ (w := w) hg (bl2_ HB.out GE449.out GE455.out)) (nl_ hg BK449.out) (ng_ hg BK449.out) (nl_ hg BK455.out) (ng_ hg BK455.out) ?_; clear HO_7 HO458 BK449 BK455 HB; intro HO_7 HO458 BK449 BK455 HB BK461 GW461 GE461 NB449_461 NB461_449 NB455_461 NB461_455; clear hb hbox hg; have hnb71 := NB461_449.out; have hnc71 := NB449_461.out; have hnb72 := NB461_455.out; have hnc72 := NB455_461.out; obtain ⟨hcz73_0, hcz73_1, hfz73_0, hfz73_1⟩ := cq2_ BK461.out; obtain ⟨Ao74, co74, eo74⟩ := Kd.R_slice HO_7.out; subst eo74) | ((with_reducible refine gate_callee (f := 31) rfl ?_); refine goesL_ (some 75) rfl rfl Tryd.func31 (by kernel_rfl) rfl #[.slice Ao74 t450.length co74] rfl ga_ ?_; (with_reducible refine (parser_Depth.calls k3 _ _ t450 t462 _ ?side1 ?side2 A40.out).mono ?_); (case side1 => refine (Kd.R_reads' (e := 41) (base := w.heap.size) (ok := fun k_ => (True ∧ some k_ ≠ (v457 : Value).ownBlock)) (n := t450.length) (c := co74) ?_).2.2; exact (by (with_reducible repeat (first | apply Kd.R_alloc | apply Kd.R_drewN | apply Kd.R_drew)); exact (Kd.R_mono (Kd.R_far (p := ⟨gb461, 1, none⟩) (Kd.R_far (p := ⟨gb461, 0, none⟩) (Kd.R_types HO_7.out BK461.out (by decide)) (fun _ hk => hk.2) (.int .i64 t459)) (fun _ hk => hk.2) (.int .i64 t460)) (fun _ h_ => h_.1)))); (case side2 => exact (Kd.R_reads' HO_7.out).2.1); rintro e w75 ⟨rfl, hb⟩; refine ⟨_, rfl, ?_⟩; refine cut6_ (Kd.R_below (by (with_reducible repeat (first | apply Kd.R_alloc | apply Kd.R_drewN | apply Kd.R_drew)); exact (Kd.R_mono (Kd.R_far (p := ⟨gb461, 1, none⟩) (Kd.R_far (p := ⟨gb461, 0, none⟩) (Kd.R_types HO_7.out BK461.out (by decide)) (fun _ hk => hk.2) (.int .i64 t459)) (fun _ hk => hk.2) (.int .i64 t460)) (fun _ h_ => h_.1))) hb) (Kd.R_below (by (with_reducible repeat (first | apply Kd.R_alloc | apply Kd.R_drewN | apply Kd.R_drew)); exact (Kd.R_mono (Kd.R_far (p := ⟨gb461, 1, none⟩) (Kd.R_far (p := ⟨gb461, 0, none⟩) (Kd.R_types HO458.out BK461.out (by decide)) (fun _ hk => hk.2) (.int .i64 t459)) (fun _ hk => hk.2) (.int .i64 t460)) (fun _ h_ => h_.1))) hb) (blk_below (g := gb449) (o := .cells #[.int .i64 t447, .int .i64 t448] 26 (0, 0)) (far2_ (bk_ BK449.out) NB449_461.out) hb) (blk_below (g := gb455) (o := .cells #[.int .i64 t453, .int .i64 t454] 26 (0, 0)) (far2_ (bk_ BK455.out) NB455_461.out) hb) (blk_below (g := gb461) (o := .cells #[.int .i64 t459, .int .i64 t460] 26 (0, 0)) (put2_ (bk_ BK461.out)) hb) (below_step (bl3_ HB.out GE449.out GE455.out GE461.out) hb) ?_; clear HO_7 HO458 BK449 BK455 BK461 HB; intro HO_7 HO458 BK449 BK455 BK461 HB; (try clear hb); (try clear hb2); (try clear hk); (try clear hi); obtain ⟨hcz76_0, hcz76_1, hfz76_0, hfz76_1⟩ := cq2_ BK461.out; obtain ⟨Ao77, co77, eo77⟩ := Kd.R_slice HO458.out; subst eo77) | (go_at_call 31; (with_reducible refine (parser_Depth.calls k3 _ _ t456 t463 _ ?side1 ?side2 A51.out).mono ?_); (case side1 => repeat (first | exact (Kd.R_reads' HO458.out).2.2 | (with_reducible refine Kd.C_alloc ?_ _) | (with_reducible refine Kd.C_drewN ?_ _) | (with_reducible refine Kd.C_drew ?_))); (case side2 => exact (Kd.R_reads' HO458.out).2.1); rintro e w78 ⟨rfl, hb⟩; refine cut6_ (Kd.R_below (rR_ HO_7.out) hb) (Kd.R_below (rR_ HO458.out) hb) (bb_ BK449.out hb) (bb_ BK455.out hb) (bb_ BK461.out hb) (below_step (bl3_ HB.out GE449.out GE455.out GE461.out) hb) ?_; clear HO_7 HO458 BK449 BK455 BK461 HB; intro HO_7 HO458 BK449 BK455 BK461 HB; (try clear hb); (try clear hb2); (try clear hk); (try clear hi)) | (go_at_call 31; (with_reducible refine (parser_Depth.calls k3 _ _ t450 t464 _ ?side1 ?side2 A52.out).mono ?_); (case side1 => repeat (first | exact (Kd.R_reads' HO_7.out).2.2 | (with_reducible refine Kd.C_alloc ?_ _) | (with_reducible refine Kd.C_drewN ?_ _) | (with_reducible refine Kd.C_drew ?_))); (case side2 => exact (Kd.R_reads' HO_7.out).2.1); rintro e w79 ⟨rfl, hb⟩; refine cut6_ (Kd.R_below (rR_ HO_7.out) hb) (Kd.R_below (rR_ HO458.out) hb) (bb_ BK449.out hb) (bb_ BK455.out hb) (bb_ BK461.out hb) (below_step (bl3_ HB.out GE449.out GE455.out GE461.out) hb) ?_; clear HO_7 HO458 BK449 BK455 BK461 HB; intro HO_7 HO458 BK449 BK455 BK461 HB; (try clear hb); (try clear hb2); (try clear hk); (try clear hi)))
                  go_ret
                  exact ⟨er_, bl3_ HB.out GE449.out GE455.out GE461.out⟩
                ·
                 rw [if_neg c50] at H
                 have c50b0 := beq_eq_false_iff_ne.mpr c50
                 have c50b1 := bne_iff_ne.mpr c50
                 obtain rfl := Option.some.inj H
                 go_wp2_with (first | ((with_reducible refine gate_callee (f := 22) rfl ?_); refine goesL_ (some 60) rfl rfl Tryd.func22 (by kernel_rfl) rfl #[.string x9_3] rfl ga_ ?_; (with_reducible refine (parser_Parse.calls k3 x9_3 t456 t459 t460 _ A26.out).mono ?_); rintro e w80 ⟨v457, rfl, ho0, hb⟩; refine ⟨_, rfl, ?_⟩; refine cut5_ (Kd.R_elder' (rR_ HO_7.out) (Kd.R_base ho0) hb) (Kd.R_lower (Kd.R_new' ho0 (Kd.R_lt (rR_ HO_7.out))) (below_size (bl2_ HB.out GE449.out GE455.out))) (bb_ BK449.out hb) (bb_ BK455.out hb) (below_step (bl2_ HB.out GE449.out GE455.out) hb) ?_; clear HO_7 BK449 BK455 HB; intro HO_7 HO458 BK449 BK455 HB; (try clear hb); (try clear hb2); (try clear hk); (try clear hi); (try clear ho0)) | ((with_reducible refine gate_dst (N := 13) rfl ?_); (try (refine gate_guard (by rfl) ?_; dsimp only)); refine bx_ (N := 13) (cs := #[.int .i64 0, .int .i64 0]) (t := 26) ?_; intro gb461 hg w81 hbox hb; refine cut12_ (Kd.R_below (rR_ HO_7.out) hb) (Kd.R_below (rR_ HO458.out) hb) (bb_ BK449.out hb) (bb_ BK455.out hb) (below_step (bl2_ HB.out GE449.out GE455.out) hb) (hbox) (bz_ (w := w) hg (bl2_ HB.out GE449.out GE455.out)) (bz_ (w := w) hg (bl2_ HB.out GE449.out GE455.out)) (nl_ hg BK449.out) (ng_ hg BK449.out) (nl_ hg BK455.out) (ng_ hg BK455.out) ?_; clear HO_7 HO458 BK449 BK455 HB; intro HO_7 HO458 BK449 BK455 HB BK461 GW461 GE461 NB449_461 NB461_449 NB455_461 NB461_455; clear hb hbox hg; have hnb82 := NB461_449.out; have hnc82 := NB449_461.out; have hnb83 := NB461_455.out; have hnc83 := NB455_461.out; obtain ⟨hcz84_0, hcz84_1, hfz84_0, hfz84_1⟩ := cq2_ BK461.out; obtain ⟨Ao85, co85, eo85⟩ := Kd.R_slice HO_7.out; subst eo85) | ((with_reducible refine gate_callee (f := 31) rfl ?_); refine goesL_ (some 75) rfl rfl Tryd.func31 (by kernel_rfl) rfl #[.slice Ao85 t450.length co85] rfl ga_ ?_; (with_reducible refine (parser_Depth.calls k3 _ _ t450 t462 _ ?side1 ?side2 A40.out).mono ?_); (case side1 => refine (Kd.R_reads' (e := 41) (base := w.heap.size) (ok := fun k_ => (True ∧ some k_ ≠ (v457 : Value).ownBlock)) (n := t450.length) (c := co85) ?_).2.2; exact (by (with_reducible repeat (first | apply Kd.R_alloc | apply Kd.R_drewN | apply Kd.R_drew)); exact (Kd.R_mono (Kd.R_far (p := ⟨gb461, 1, none⟩) (Kd.R_far (p := ⟨gb461, 0, none⟩) (Kd.R_types HO_7.out BK461.out (by decide)) (fun _ hk => hk.2) (.int .i64 t459)) (fun _ hk => hk.2) (.int .i64 t460)) (fun _ h_ => h_.1)))); (case side2 => exact (Kd.R_reads' HO_7.out).2.1); rintro e w86 ⟨rfl, hb⟩; refine ⟨_, rfl, ?_⟩; refine cut6_ (Kd.R_below (by (with_reducible repeat (first | apply Kd.R_alloc | apply Kd.R_drewN | apply Kd.R_drew)); exact (Kd.R_mono (Kd.R_far (p := ⟨gb461, 1, none⟩) (Kd.R_far (p := ⟨gb461, 0, none⟩) (Kd.R_types HO_7.out BK461.out (by decide)) (fun _ hk => hk.2) (.int .i64 t459)) (fun _ hk => hk.2) (.int .i64 t460)) (fun _ h_ => h_.1))) hb) (Kd.R_below (by (with_reducible repeat (first | apply Kd.R_alloc | apply Kd.R_drewN | apply Kd.R_drew)); exact (Kd.R_mono (Kd.R_far (p := ⟨gb461, 1, none⟩) (Kd.R_far (p := ⟨gb461, 0, none⟩) (Kd.R_types HO458.out BK461.out (by decide)) (fun _ hk => hk.2) (.int .i64 t459)) (fun _ hk => hk.2) (.int .i64 t460)) (fun _ h_ => h_.1))) hb) (blk_below (g := gb449) (o := .cells #[.int .i64 t447, .int .i64 t448] 26 (0, 0)) (far2_ (bk_ BK449.out) NB449_461.out) hb) (blk_below (g := gb455) (o := .cells #[.int .i64 t453, .int .i64 t454] 26 (0, 0)) (far2_ (bk_ BK455.out) NB455_461.out) hb) (blk_below (g := gb461) (o := .cells #[.int .i64 t459, .int .i64 t460] 26 (0, 0)) (put2_ (bk_ BK461.out)) hb) (below_step (bl3_ HB.out GE449.out GE455.out GE461.out) hb) ?_; clear HO_7 HO458 BK449 BK455 BK461 HB; intro HO_7 HO458 BK449 BK455 BK461 HB; (try clear hb); (try clear hb2); (try clear hk); (try clear hi); obtain ⟨hcz87_0, hcz87_1, hfz87_0, hfz87_1⟩ := cq2_ BK461.out))
                 go_ret
                 exact ⟨er_, bl3_ HB.out GE449.out GE455.out GE461.out⟩
          ·
           rw [if_neg c23] at H
           exact absurd H (by simp)
         ·
          rw [if_neg c22] at H
          exact absurd H (by simp)
     ·
      rw [if_neg c11] at H
      have c11b0 := beq_eq_false_iff_ne.mpr c11
      have c11b1 := bne_iff_ne.mpr c11
      obtain rfl := Option.some.inj H
      go_wp2_with (first | ((with_reducible refine gate_callee (f := 22) rfl ?_); refine goesL_ (some 29) rfl rfl Tryd.func22 (by kernel_rfl) rfl #[.string a1] rfl ga_ ?_; (with_reducible refine (parser_Parse.calls kj4 a1 t444 t447 t448 _ A10.out).mono ?_); rintro e w88 ⟨v445, rfl, ho0, hb⟩; refine ⟨_, rfl, ?_⟩; refine cut2_ (Kd.R_lower ho0 (below_size (bl_ HB.out))) (below_step (bl_ HB.out) hb) ?_; clear HB; intro HO446 HB; (try clear hb); (try clear hb2); (try clear hk); (try clear hi); (try clear ho0)) | ((with_reducible refine gate_dst (N := 6) rfl ?_); (try (refine gate_guard (by rfl) ?_; dsimp only)); refine bx_ (N := 6) (cs := #[.int .i64 0, .int .i64 0]) (t := 26) ?_; intro gb449 hg w89 hbox hb; refine cut5_ (Kd.R_below (rR_ HO446.out) hb) (below_step (bl_ HB.out) hb) (hbox) (bz_ (w := w) hg (bl_ HB.out)) (bz_ (w := w) hg (bl_ HB.out)) ?_; clear HO446 HB; intro HO446 HB BK449 GW449 GE449; clear hb hbox hg; obtain ⟨hcz90_0, hcz90_1, hfz90_0, hfz90_1⟩ := cq2_ BK449.out))
      go_ret
      exact ⟨er_, bl1_ HB.out GE449.out⟩
 ·
  replace c4 := Bool.eq_false_iff.mpr c4
  subst c4
  have H1 : (some false) = some r := by rw [if_neg (show ¬ (false = true) by decide)] at H; exact H
  clear H
  have H := H1
  clear H1
  obtain rfl := Option.some.inj H
  go_enter Tryd.func7, Tryd.ntmps7
  go_wp2_with (first | ((with_reducible refine gate_callee (f := 21) rfl ?_); refine goesL_ (some 14) rfl rfl Tryd.func21 (by kernel_rfl) rfl #[] rfl ga_ ?_; (with_reducible refine (salchowlaw10_awake.calls k  false _ A3.out).mono ?_); rintro e w91 ⟨rfl, hb⟩; refine ⟨_, rfl, ?_⟩; refine cut1_ (below_step (bl_ HB.out) hb) ?_; clear HB; intro HB; (try clear hb); (try clear hb2); (try clear hk); (try clear hi)))
  go_ret
  exact ⟨er_, bl_ HB.out⟩
/-- THE ONE PURE STATEMENT of salchowlaw10_ParserNests: yours. -/
def salchowlaw10_ParserNests.Pure : Prop := ∀ (a0 : Int) (a1 : ByteArray), (Lit.int .i64 a0).wf = true → a1.size ≤ 140737488351232 → ∃ k, salchowlaw10_ParserNests.f k a0 a1 = some true
theorem salchowlaw10_ParserNests.walk (P : salchowlaw10_ParserNests.Pure) (a0 : Int) (a1 : ByteArray) (w : World) (w0 : (Lit.int .i64 a0).wf = true) (w1 : a1.size ≤ 140737488351232) :
  Calls Tryd.prog 7 #[.int .i64 a0, .string a1] w fun e w' => e = .returned (.bool true) ∧ Below w.heap.size w w' := by
 obtain ⟨k, h⟩ := P a0 a1 w0 w1
 refine (salchowlaw10_ParserNests.calls k a0 a1 true w h).mono ?_
 rintro e w' ⟨rfl, hd⟩
 exact ⟨rfl, hd⟩
end Go.Proofs.YtkifdadhojbohaaDoor.Pr
namespace Go.Proofs.YtkifdadhojbohaaDoor.Pu
open Go.RowKit Go.Proofs.YtkifdadhojbohaaDoor Go.Proofs.YtkifdadhojbohaaDoor.Pr Go.Proofs.YtkifdadhojbohaaDoorW.PrintWords Go.Proofs.YtkifdadhojbohaaDoorW.PrintLast Go.Proofs.YtkifdadhojbohaaDoorW.PrintMore
/-! ### Nests -/
theorem read_deep : ∀ l, formL l = true → szL l ≤ 900000 → ∀ o, o ≤ 8 → 8 < depL l + o → ∀ ts, ts.map k3 = (toksL l).map k3 → ∀ r, ∃ a, RL o (ts ++ r) (.error (6, a)) := by
  refine indL ?_ ?_
  · intro _ _ o ho hd
    rw [depL] at hd; omega
  · intro c l h1 h2 hf hsz o ho8 ho ts hts r
    rw [formL] at hf
    simp only [Bool.and_eq_true] at hf
    obtain ⟨⟨⟨⟨f1, f2⟩, f3⟩, f4⟩, f5⟩ := hf
    rw [szL] at hsz
    rw [depL] at ho
    rw [toksL] at hts
    simp only [List.map_append, List.map_cons, List.append_assoc, List.cons_append] at hts
    obtain ⟨t, ts1, rfl, e1, hts⟩ := map_cons_inv hts
    obtain ⟨ats, ts2, rfl, e2, hts⟩ := map_app_inv hts
    obtain ⟨mid, ts3, rfl, e3, e4⟩ := map_app_inv hts
    have hall : ∀ a ∈ c.f1, isA a = true := by
      intro a ha
      have := List.all_eq_true.1 f3 a ha
      unfold okA at this
      rw [Bool.and_eq_true] at this
      exact this.1
    have hA := map_isA e2 hall
    have ht1 : t.f0 = 1 := (k3_eq e1).1
    by_cases hb : c.f2 = true
    · rw [if_pos hb] at e3 ho
      simp only [List.map_append, List.map_cons, List.append_assoc, List.cons_append] at e3
      obtain ⟨u, m1, rfl, e5, e6⟩ := map_cons_inv e3
      obtain ⟨kt, m2, rfl, e7, e8⟩ := map_app_inv e6
      obtain ⟨b, m3, rfl, e9, e10⟩ := map_cons_inv e8
      have : m3 = [] := by cases m3 with
        | nil => rfl
        | cons _ _ => cases e10
      subst this
      have hu : isS u 123 = true := by rw [k3_isS e5, sg_isS]; rfl
      have hbb : isS b 125 = true := by rw [k3_isS e9, sg_isS]; rfl
      have hb1 : b.f0 ≠ 1 := by rw [isS_f0 hbb]; decide
      have e : t :: (ats ++ (u :: (kt ++ [b]) ++ ts3)) ++ r = t :: (ats ++ u :: (kt ++ b :: (ts3 ++ r))) := by simp
      rw [e]
      by_cases h8 : o = 8
      · subst h8
        exact ⟨_, RL.lim t ats u _ ht1 hA hu⟩
      · by_cases hk : depL c.f3 + (o + 1) ≤ 8
        · obtain ⟨ks, k1, k2⟩ := read_toks c.f3 f4 (by omega) (o + 1) hk kt e7 (b :: (ts3 ++ r)) _ (RL.stop (o + 1) b (ts3 ++ r) hb1 (by simpa [stopT] using hbb))
          have k2' : RL (o + 1) (kt ++ b :: (ts3 ++ r)) (.ok (ks, b :: (ts3 ++ r))) := by simpa [pre] using k2
          obtain ⟨a, ha⟩ := h2 f5 (by omega) o ho8 (by omega) ts3 e4 r
          exact ⟨a, RL.blk o t ats u _ ks b (ts3 ++ r) _ (by omega) ht1 hA hu k2' ha⟩
        · obtain ⟨a, ha⟩ := h1 f4 (by omega) (o + 1) (by omega) (by omega) kt e7 (b :: (ts3 ++ r))
          exact ⟨a, RL.blkF o t ats u _ _ (by omega) ht1 hA hu ha⟩
    · rw [if_neg hb] at e3 ho
      obtain ⟨u, m1, rfl, e5, e6⟩ := map_cons_inv e3
      have : m1 = [] := by cases m1 with
        | nil => rfl
        | cons _ _ => cases e6
      subst this
      have hu : isS u 59 = true := by rw [k3_isS e5, sg_isS]; rfl
      obtain ⟨a, ha⟩ := h2 f5 (by omega) o ho8 (by omega) ts3 e4 r
      have e : t :: (ats ++ ([u] ++ ts3)) ++ r = t :: (ats ++ u :: (ts3 ++ r)) := by simp
      rw [e]
      exact ⟨a, RL.semi o t ats u _ _ ht1 hA hu ha⟩
/-- n blocks around a list. -/
def nestL : Nat → List S41 → List S41
  | 0, m => m
  | n + 1, m => [⟨str [97], [], true, nestL n m, 0⟩]
def opn : Nat → List UInt8
  | 0 => []
  | n + 1 => 97 :: 123 :: opn n
def cls (n : Nat) : List UInt8 := List.replicate n 125
def opT : Nat → Nat → List Tok
  | 0, _ => []
  | n + 1, x => ⟨1, [97], 0, (opn n).length + x + 2⟩ :: ⟨4, [123], 0, (opn n).length + x + 1⟩ :: opT n x
def clT : Nat → List Tok
  | 0 => []
  | n + 1 => ⟨4, [125], 0, n + 1⟩ :: clT n
theorem opn_len (n : Nat) : (opn n).length = 2 * n := by
  induction n with
  | zero => rfl
  | succ n ih => simp [opn, ih]; omega
theorem tok_a (l : List UInt8) : tokL (97 :: 123 :: l) = ⟨1, [97], 0, 123 :: l, 0⟩ := by
  have h : (123 :: l).takeWhile isRunB = [] ∧ (123 :: l).dropWhile isRunB = 123 :: l := by
    have : isRunB 123 = false := by decide
    simp [this]
  unfold tokL
  dsimp only
  rw [if_pos (by decide), h.1, h.2]
  rfl
theorem tok_sg (c : UInt8) (hc : kindOf c.toNat = 5) (l : List UInt8) : tokL (c :: l) = ⟨4, [c], 0, l, 0⟩ := by
  have hr : isRunB c = false := by
    unfold isRunB
    rw [hc]; rfl
  have h34 : c.toNat ≠ 34 := by
    intro h
    rw [h] at hc
    revert hc; decide
  unfold tokL
  dsimp only
  rw [if_neg (by simp [hr]), if_neg h34, if_pos hc]
theorem lex_step (f : Nat) (c : UInt8) (l r : List UInt8) (k n : Int) (t : List UInt8) (ts : List Tok) (h : tokL (c :: l) = ⟨k, t, n, r, 0⟩) (hr : lexL f r = .ok ts) : lexL (f + 1) (c :: l) = .ok (⟨k, t, n, (c :: l).length⟩ :: ts) := by
  have hs := skip_tok c l (by rw [h])
  simp only [lexL]
  rw [hs, h, if_neg (by simp), if_neg (by simp)]
  dsimp only
  rw [hr]
theorem lex_opn (x : List UInt8) (ts : List Tok) (f : Nat) (h : lexL f x = .ok ts) : ∀ n, lexL (f + 2 * n) (opn n ++ x) = .ok (opT n x.length ++ ts) := by
  intro n
  induction n with
  | zero => exact h
  | succ n ih =>
    have h2 := lex_step _ 123 (opn n ++ x) (opn n ++ x) 4 0 [123] _ (tok_sg 123 (by decide) _) ih
    have h1 := lex_step _ 97 (123 :: (opn n ++ x)) (123 :: (opn n ++ x)) 1 0 [97] _ (tok_a _) h2
    have e : f + 2 * (n + 1) = f + 2 * n + 1 + 1 := by omega
    rw [e]
    show lexL _ (97 :: 123 :: (opn n ++ x)) = _
    rw [h1]
    simp [opT]
theorem lex_cls : ∀ n f, n < f → lexL f (cls n) = .ok (clT n ++ [endT]) := by
  intro n
  induction n with
  | zero =>
    intro f hf
    obtain ⟨f, rfl⟩ : ∃ f', f = f' + 1 := ⟨f - 1, by omega⟩
    rfl
  | succ n ih =>
    intro f hf
    obtain ⟨f, rfl⟩ : ∃ f', f = f' + 1 := ⟨f - 1, by omega⟩
    have := lex_step f 125 (cls n) (cls n) 4 0 [125] _ (tok_sg 125 (by decide) _) (ih f (by omega))
    show lexL (f + 1) (125 :: cls n) = _
    rw [this]
    simp [clT, cls]
theorem nest_keys (m : List S41) : ∀ n x, (toksL (nestL n m)).map k3 = (opT n x).map Tok.key ++ ((toksL m).map k3 ++ (clT n).map Tok.key) := by
  intro n
  induction n with
  | zero => intro x; simp [nestL, opT, clT]
  | succ n ih =>
    intro x
    have hc : (clT (n + 1)).map Tok.key = (clT n).map Tok.key ++ [k3 (sgT 125)] := by
      have : ∀ n, (clT n).map Tok.key = List.replicate n (k3 (sgT 125)) := by
        intro n
        induction n with
        | zero => rfl
        | succ n ih => rw [clT, List.map_cons, ih, List.replicate_succ]; rfl
      rw [this, this, List.replicate_succ']
    rw [nestL, toksL, toksL, if_pos rfl, opT, hc]
    simp only [List.map_append, List.map_cons, List.map_nil, List.append_nil, ih x]
    simp only [List.cons_append, List.nil_append, List.append_assoc]
    rfl
theorem nest_facts (m : List S41) : ∀ n, formL (nestL n m) = formL m ∧ depL (nestL n m) = n + depL m ∧ cntL (nestL n m) = n + cntL m ∧ szL (nestL n m) = n + szL m := by
  intro n
  induction n with
  | zero => simp [nestL]
  | succ n ih =>
    obtain ⟨h1, h2, h3, h4⟩ := ih
    refine ⟨?_, ?_, ?_, ?_⟩
    · rw [nestL, formL, formL, h1]
      have : validB 1 (lst (str [97])) 0 = true := by decide
      rw [this]
      simp
    · rw [nestL, depL, depL, if_pos rfl, h2]; omega
    · rw [nestL, cntL, cntL, h3]; omega
    · rw [nestL, szL, szL, h4]; simp; omega
theorem RL.ninth (N : Nat) : ∀ (j o : Nat) (x : Nat) (r : List S46), o + j = 8 → RL o ((opT (j + 1) x).map (Tok.at_ N) ++ r) (.error (6, (N : Int) - (x + 1))) := by
  intro j
  induction j with
  | zero =>
    intro o x r ho
    obtain rfl : o = 8 := by omega
    have := RL.lim (Tok.at_ N ⟨1, [97], 0, (opn 0).length + x + 2⟩) [] (Tok.at_ N ⟨4, [123], 0, (opn 0).length + x + 1⟩) r rfl (by simp) rfl
    have e : (Tok.at_ N ⟨4, [123], 0, (opn 0).length + x + 1⟩).f3 = (N : Int) - (x + 1) := by
      show (N : Int) - (((opn 0).length + x + 1 : Nat) : Int) = _
      rw [opn_len]; omega
    rw [e] at this
    exact this
  | succ j ih =>
    intro o x r ho
    have := RL.blkF o (Tok.at_ N ⟨1, [97], 0, (opn (j + 1)).length + x + 2⟩) [] (Tok.at_ N ⟨4, [123], 0, (opn (j + 1)).length + x + 1⟩) _ _ (by omega) rfl (by simp) rfl (ih (o + 1) x r (by omega))
    exact this
theorem opT_split : ∀ (j k x : Nat), opT (j + k) x = opT j (2 * k + x) ++ opT k x := by
  intro j k x
  induction j with
  | zero => simp [opT]
  | succ j ih =>
    have e : j + 1 + k = (j + k) + 1 := by omega
    rw [e, opT, opT, ih, opn_len, opn_len]
    have e1 : 2 * (j + k) + x + 2 = 2 * j + (2 * k + x) + 2 := by omega
    have e2 : 2 * (j + k) + x + 1 = 2 * j + (2 * k + x) + 1 := by omega
    rw [e1, e2]; rfl
theorem opn_snoc (n : Nat) : opn (n + 1) = opn n ++ [97, 123] := by
  induction n with
  | zero => rfl
  | succ n ih =>
    show 97 :: 123 :: opn (n + 1) = (97 :: 123 :: opn n) ++ [97, 123]
    rw [ih]; rfl
theorem cls_snoc (n : Nat) : cls (n + 1) = cls n ++ [125] := List.replicate_succ'
theorem nest_l0 (n : Nat) (hn : n ≤ 20) (s : ByteArray) (hs : s.size ≤ 200) (m : List S41) (r : Bool) (h : Ev (fun k => salchowlaw10_ParserNests.l1 k (n : Int) m (str (opn n) ++ (s ++ (⟨#[10]⟩ : ByteArray))) 0) r) :
    ∀ d i, i + d = n → Ev (fun k => salchowlaw10_ParserNests.l0 k (n : Int) s m (str (opn i)) (i : Int)) r := by
  intro d
  induction d with
  | zero =>
    intro i hi
    obtain rfl : i = n := by omega
    refine Ev.succ ?_
    simp only [salchowlaw10_ParserNests.l0]
    have h1 : (s ++ (⟨#[10]⟩ : ByteArray)).size = s.size + 1 := by rw [ByteArray.size_append]; rfl
    refine Ev.ifn (by omega) (Ev.ifp (by omega) (Ev.ifp ?_ h))
    rw [size_str, opn_len, h1]; omega
  | succ d ih =>
    intro i hi
    refine Ev.succ ?_
    simp only [salchowlaw10_ParserNests.l0]
    have e : str (opn i) ++ (⟨#[97, 123]⟩ : ByteArray) = str (opn (i + 1)) := lst_inj (by rw [lst_append, opn_snoc]; rfl)
    rw [e, wrap_nat i (by omega)]
    exact Ev.ifp (by omega) (Ev.ifp (by rw [size_str, opn_len]; omega) (ih (i + 1) (by omega)))
def nestEnd (n : Nat) (m : List S41) (x : ByteArray) (k : Nat) : Option Bool :=
  (parser_Parse.f k x).bind fun bt456 => (if (n : Int) > 8 then (if (bt456.2.1 == 6 && (bt456.2.2 == 17)) = true then (some ((bt456.1.length : Int) == 0)) else (some false)) else ((parser_Depth.f k m).bind fun t462 => (if (wrap64 ((n : Int) + t462)) > 8 then (some (bt456.2.1 == 6)) else (if bt456.2.1 = 0 then ((parser_Depth.f k bt456.1).bind fun t463 => ((parser_Depth.f k m).bind fun t464 => (if t463 = (wrap64 ((n : Int) + t464)) then ((parser_Count.f k bt456.1).bind fun t465 => ((parser_Count.f k m).bind fun t466 => (some (t465 == (wrap64 ((n : Int) + t466)))))) else (some false)))) else (some false)))))
theorem nest_l1 (n : Nat) (hn : n ≤ 20) (m : List S41) (base : List UInt8) (hb : base.length ≤ 1000) (r : Bool) (h : ∀ x : ByteArray, lst x = base ++ cls n → Ev (nestEnd n m x) r) :
    ∀ d i (x : ByteArray), i + d = n → lst x = base ++ cls i → Ev (fun k => salchowlaw10_ParserNests.l1 k (n : Int) m x (i : Int)) r := by
  intro d
  induction d with
  | zero =>
    intro i x hi hx
    obtain rfl : i = n := by omega
    refine Ev.succ ?_
    simp only [salchowlaw10_ParserNests.l1]
    exact Ev.ifn (by omega) (h x hx)
  | succ d ih =>
    intro i x hi hx
    refine Ev.succ ?_
    simp only [salchowlaw10_ParserNests.l1]
    rw [wrap_nat i (by omega)]
    have hsz : x.size = base.length + i := by rw [← lst_length, hx, List.length_append, cls, List.length_replicate]
    exact Ev.ifp (by omega) (Ev.ifp (by omega) (ih (i + 1) (x ++ ⟨#[125]⟩) (by omega) (by rw [lst_append, hx, cls_snoc, List.append_assoc]; rfl)))
theorem nest_end (n : Nat) (hn : n ≤ 20) (s : ByteArray) (hs : s.size ≤ 200) {m : List S41} (hm : PA s (m, 0, 0)) (x : ByteArray) (hx : lst x = opn n ++ (lst s ++ 10 :: cls n)) : Ev (nestEnd n m x) true := by
  obtain ⟨us, h1, h2, h3, h4, h5, h6, h7, h8, h9, _⟩ := hm.facts (by omega)
  have hcl : (cls n).length = n := List.length_replicate
  have hsz : x.size = 2 * n + (s.size + 1 + n) := by rw [← lst_length, hx, List.length_append, opn_len, List.length_append, List.length_cons, lst_length, hcl]; omega
  have hin := lex_line (cls n) _ (n + 1) (lex_cls n (n + 1) (by omega)) (by rw [hcl]; omega) (s.size + 1) (lst s) us (by rw [lst_length]; omega) h1 (s.size + n + 2) (by rw [List.length_append, List.length_cons, hcl, lst_length]; omega)
  rw [hcl] at hin
  have hlen : (lst s ++ 10 :: cls n).length = s.size + 1 + n := by rw [List.length_append, List.length_cons, hcl, lst_length]; omega
  have hlex := lex_opn _ _ _ hin n
  rw [← hx, hlen] at hlex
  have hlex2 : lexL (x.size + 1) (lst x) = .ok ((opT n (s.size + 1 + n) ++ (us.map (Tok.up (n + 1)) ++ clT n)) ++ [endT]) := by
    rw [lexL_fuel (x.size + 1) (s.size + n + 2 + 2 * n) (lst x) (by rw [lst_length]; omega) (by rw [lst_length]; omega), hlex]
    simp
  have hkeys : (opT n (s.size + 1 + n) ++ (us.map (Tok.up (n + 1)) ++ clT n)).map Tok.key = (toksL (nestL n m)).map k3 := by
    rw [nest_keys m n (s.size + 1 + n), List.map_append, List.map_append, ← PA.keys (by omega) h1 h2, List.map_map]
    rfl
  obtain ⟨f1, f2, f3, f4⟩ := nest_facts m n
  have hdn := dep_le m
  have hcn := cnt_le m
  unfold nestEnd
  by_cases h8 : 8 < n
  · have hs9 : opT n (s.size + 1 + n) = opT 9 (2 * (n - 9) + (s.size + 1 + n)) ++ opT (n - 9) (s.size + 1 + n) := by
      have := opT_split 9 (n - 9) (s.size + 1 + n)
      rwa [show 9 + (n - 9) = n by omega] at this
    have hrl := RL.ninth x.size 8 0 (2 * (n - 9) + (s.size + 1 + n)) ((opT (n - 9) (s.size + 1 + n)).map (Tok.at_ x.size) ++ ((us.map (Tok.up (n + 1)) ++ clT n).map (Tok.at_ x.size) ++ [endS x.size])) (by omega)
    have hat : (x.size : Int) - ((2 * (n - 9) + (s.size + 1 + n) : Nat) + 1) = 17 := by omega
    rw [hat] at hrl
    have hp : PA x ([], 6, 17) := PA.tok _ (6, 17) hlex2 (by
      rw [hs9]
      simpa using hrl)
    exact Ev.bind (Parse_f x (by omega) hp) (Ev.ifp (by omega) (Ev.ifp rfl (Ev.now _)))
  · by_cases hd : 8 < n + depL m
    · obtain ⟨a, ha⟩ := read_deep (nestL n m) (by rw [f1]; exact h6) (by omega) 0 (by omega) (by omega) ((opT n (s.size + 1 + n) ++ (us.map (Tok.up (n + 1)) ++ clT n)).map (Tok.at_ x.size)) (by rw [List.map_map]; exact hkeys) [endS x.size]
      have hp : PA x ([], 6, a) := PA.tok _ (6, a) hlex2 ha
      refine Ev.bind (Parse_f x (by omega) hp) (Ev.ifn (by omega) (Ev.bind (Depth_f m (by omega)) (Ev.ifp ?_ (Ev.now _))))
      rw [wrap64_of (by omega) (by omega)]; omega
    · obtain ⟨cs, g1, g2⟩ := PA_spelled x (nestL n m) (by rw [f1]; exact h6) (by omega) (by omega) hlex2 hkeys
      obtain ⟨_, _, _, k3_, _⟩ := g2.facts (by omega)
      have hi := g1.inv
      refine Ev.bind (Parse_f x (by omega) g2) (Ev.ifn (by omega) (Ev.bind (Depth_f m (by omega)) (Ev.ifn ?_ (Ev.ifp rfl (Ev.bind (Depth_f cs (by omega)) (Ev.bind (Depth_f m (by omega)) (Ev.ifp ?_ (Ev.bind (Count_f cs (by omega)) (Ev.bind (Count_f m (by omega)) (Ev.ret ?_))))))))))
      · rw [wrap64_of (by omega) (by omega)]; omega
      · rw [wrap64_of (by omega) (by omega), hi.1, f2]; omega
      · rw [beq_iff_eq, wrap64_of (by omega) (by omega), hi.2, f3]; omega
theorem parserNests : salchowlaw10_ParserNests.Pure := by
  intro i s _ _
  apply Ev.rounds
  have skip : Ev (fun k => salchowlaw10_ParserNests.j0 k i s true) true := by
    refine Ev.succ ?_
    simp only [salchowlaw10_ParserNests.j0]
    exact Ev.ifp trivial (Ev.now _)
  unfold salchowlaw10_ParserNests.f
  refine Ev.bind awake10_f (Ev.ifp rfl ?_)
  by_cases h0 : i < 0
  · exact Ev.ifp h0 skip
  · refine Ev.ifn h0 ?_
    by_cases h1 : i > 20
    · exact Ev.ifp h1 skip
    · refine Ev.ifn h1 ?_
      by_cases h2 : (s.size : Int) > 200
      · rw [decide_eq_true h2]; exact skip
      · rw [decide_eq_false h2]
        obtain ⟨n, rfl⟩ : ∃ n : Nat, i = (n : Int) := ⟨i.toNat, by omega⟩
        obtain ⟨y, hy⟩ := PA.ex s
        refine Ev.succ ?_
        simp only [salchowlaw10_ParserNests.j0]
        refine Ev.ifn (by simp) (Ev.bind (Parse_f s (by omega) hy) ?_)
        by_cases hc : y.2.1 = 0
        · obtain ⟨m, c, a⟩ := y
          obtain rfl : c = 0 := hc
          obtain ⟨us, k1, k2, k3_, k4, k5, k6, k7, k8, k9, rfl⟩ := hy.facts (by omega)
          refine Ev.ifp rfl (Ev.bind (Parse_f s (by omega) hy) ?_)
          refine nest_l0 n (by omega) s (by omega) m true ?_ n 0 (by omega)
          refine nest_l1 n (by omega) m (opn n ++ (lst s ++ [10])) ?_ true ?_ n 0 _ (by omega) ?_
          · rw [List.length_append, List.length_append, opn_len, lst_length]; simp; omega
          · intro x hx
            exact nest_end n (by omega) s (by omega) hy x (by rw [hx]; simp)
          · rw [lst_append, lst_append, lst_str]
            simp [cls, lst]
        · exact Ev.ifn hc (Ev.now _)
end Go.Proofs.YtkifdadhojbohaaDoor.Pu
namespace Go.Proofs.YtkifdadhojbohaaDoor.parserNests
open Go.ChangeShapes Go.WideShapes Go.ChangeAt Go.RowKit Rk
open Go.ChangeMaps (open_string shut_string)
theorem c09 : (Rows.parserNestsRow.inPlace == Tryd.prog.inPlace 7) = true := by kernel_rfl
theorem c10 : (Rows.parserNestsRow.unfollowed == Tryd.prog.unfollowed 7) = true := by kernel_rfl
theorem c11 : (Rows.parserNestsRow.recurses == Tryd.prog.recurses 7) = true := by kernel_rfl
theorem c12 : (Rows.parserNestsRow.named == Tryd.prog.varsNamed 7) = true := by kernel_rfl
theorem facts : joinedFacts Tryd.prog 7 Tryd.f7 Rows.parserNestsSpec Rows.parserNestsRow = true :=
  facts_of _ _ _ _ _ (by kernel_rfl) out_ rowed_ (by kernel_rfl) (by kernel_rfl) rfl (by kernel_rfl) rfl (by kernel_rfl) c09 c10 c11 c12 (by kernel_rfl) (by kernel_rfl) (by kernel_rfl) (by kernel_rfl) (by kernel_rfl)
    (by kernel_rfl) (by kernel_rfl) (by kernel_rfl) (by kernel_rfl) (by kernel_rfl) (by kernel_rfl) heard_ enter_ (by kernel_rfl) (by kernel_rfl) (by kernel_rfl) (by kernel_rfl) (by kernel_rfl) (by kernel_rfl)
theorem goes : false = Rows.parserNestsRow.goesBy Tryd.prog := by kernel_rfl
set_option maxRecDepth 100000 in
theorem lifted (os : Os) (started : os.Started) (H : Type) (enc : TypeId × Value → H) :
    ReturnsInHanded {} Tryd.checked os 7 .any (fun w args => (Rows.parserNestsSpec.pre enc Tryd.prog Tryd.f7 [] false w args ∧ laidMetH Tryd.prog laidA w) ∧ sizedMet enc Tryd.prog Tryd.f7 (OpenSpec.ofChange Rows.parserNestsSpec) false w args)
      (Rows.parserNestsSpec.post enc Tryd.prog Tryd.f7 false true false false) := by
  refine returnsInHanded_of_change_and (C := Tryd.checked) (X := fun w _ => laidMetH Tryd.prog laidA w) (fun _ _ _ hh h => h.of_heap hh) own started (by kernel_rfl) Tryd.func7
    (ChangeSpec.witness_shaped (enc := enc) (C := Tryd.checked) (os := os) (X := fun w _ => laidMetH Tryd.prog laidA w) false (wA os) #[.int .i64 0, .string ByteArray.empty] 8 (World.laidAll_os _ _ _)
      (World.shaped_of_ZipB (by kernel_rfl) (by kernel_rfl)) (by kernel_rfl) (by kernel_rfl) (by kernel_rfl) (met_A os _)) ?_
  intro W base args ds gs before hval0 hW _ hsz0 hL _
  have hsz : (DataW.weightsEach Tryd.prog (Tryd.f7.params.toList ++ Rows.parserNestsSpec.plain.varTypes Tryd.prog) (ds ++ gs)).all (· ≤ reachBytes) = true := hsz0
  have hval : ∀ (j : Nat) t v, Tryd.f7.params[j]? = some t → args[j]? = some v → Value.okWide Tryd.prog W .any base t v := hval0
  have hW' := hW
  obtain ⟨p, q, hA0, hV, rfl, _, _⟩ := hW
  have hA : DataW.TrodAll enc Tryd.prog W 0 (fun _ => true) true Tryd.f7.params.toList args.toList ds p := hA0
  rw [Tryd.params7] at hA hval hsz
  obtain ⟨v0, vs0, d0, ds0, p0, q0, hargs, rfl, rfl, h0, r0⟩ := trodAll_cons hA
  obtain ⟨v1, vs1, d1, ds1, p1, q1, rfl, rfl, rfl, h1, r1⟩ := trodAll_cons r0
  obtain ⟨rfl, rfl, rfl⟩ := trodAll_nil r1
  obtain rfl : args = #[v0, v1] := by cases args; simp_all
  obtain ⟨rfl, rfl⟩ := trodVars_none hV
  obtain ⟨a0, rfl, rfl, rfl, w0⟩ := open_int Tryd.underlying3 (hval 0 3 v0 rfl rfl) h0
  obtain ⟨a1, rfl, rfl, rfl, y1⟩ := open_string Tryd.underlying9 (hval 1 9 v1 rfl rfl) h1
  have w1 : a1.size ≤ 140737488351232 := by
    have z := sized_string hsz (j := 1) (t := 9) rfl rfl
    rw [Array.length_toList] at z
    exact z
  clear hA0 hval0 hsz0 hsz
  refine (Pr.salchowlaw10_ParserNests.walk Pu.parserNests a0 a1 W  w0 w1).mono fun e W' ⟨he, bel⟩ => ?_
  subst he
  exact ⟨_, rfl, _, _, _, [], _, [], hW', trodAll_mk1 (shut_bool Tryd.underlying4 _), (trodAll_cons_mk (shut_int Tryd.underlying3 w0) (trodAll_cons_mk (shut_string Tryd.underlying9 y1) trodAll_mk0)), rfl, bel.frame _, fun h => by cases h⟩
theorem over : Rows.parserNestsRow.holds Tryd.pinned (OpenSpec.ofChange Rows.parserNestsSpec) :=
  OpenClaim.holds_of_wide 7 Tryd.f7 rfl rfl rfl rfl rfl rfl rfl ⟨rfl, rfl, rfl, rfl, rfl⟩ rfl rfl rfl rfl rfl (by kernel_rfl) Tryd.func7 facts
    (of_decide_eq_true (by kernel_rfl)) (by unfold Func.isWrapper; first | (rw [if_pos (by decide +kernel)]; kernel_rfl) | (rw [if_neg (by decide +kernel)]; exact ⟨rfl, rfl⟩))
    (fun os started H enc _ => lifted os started H enc)
theorem card : Rows.ParserNestsCardSaid :=
  Claim7.holds_tied_plain_at .later [] [.data, .data, .data, .sentinel, .sentinel] true (true, "74d2011260c70b611c86c4d3b7f5d11cc5fefff18c715f175ff3522b41f9dd0c") true
    over (fun _ h => by cases h) (by kernel_rfl) (fun _ h => by cases h) parserNests_row_tie rfl ⟨rfl, rfl⟩ mainIs_ rfl
    (fun f fn hf hfn => by
      obtain rfl : f = 7 := Option.some.inj ((show Tryd.prog.funcNamed "salchow/salchowlaw10.ParserNests" = some 7 by kernel_rfl).symm.trans hf) |>.symm
      obtain rfl : fn = Tryd.f7 := (Option.some.inj (Tryd.func7.symm.trans hfn)).symm
      exact ⟨looks_, fun j t ht => by
        rw [Tryd.params7] at ht
        have hm : t ∈ [3, 9] := by simpa using Array.mem_of_getElem? ht
        have hall : ([3, 9].all fun u => !Tryd.prog.wantsStandIn u) = true := by kernel_rfl
        exact (show Tryd.prog.wantsStandIn t = false by simpa using List.all_eq_true.1 hall t hm)⟩)
    goes
#print axioms card
end Go.Proofs.YtkifdadhojbohaaDoor.parserNests
