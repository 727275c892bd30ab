/- Joined out of the texts of this proof that bear the names PrF29 PrF60 PrF59 PrF58 PrF57 PrG29 PwD PvK GivB PvA PrF31 PrF30 PwE PrG22 PxA PwF PwG PwH PwIs: what each shows stands over it there. -/
import Derived.Test.YtkifdadhojbohaaDoorVk1
import Derived.Test.YtkifdadhojbohaaDoorVb1
import Derived.Test.YtkifdadhojbohaaDoorVw1
import Derived.Test.YtkifdadhojbohaaDoorVc1
import Derived.Test.YtkifdadhojbohaaDoorVe1
import Derived.Lib.AppendIntMem
import Derived.Stop.LaidErr
import Derived.WalkSmall
set_option linter.unusedVariables false
set_option linter.unusedSimpArgs false
namespace Go.Proofs.YtkifdadhojbohaaDoor.Pr
open Go.Proofs.YtkifdadhojbohaaDoor
open Go.RowKit Go.Proofs.YtkifdadhojbohaaDoorW.PrintWords Go.Proofs.YtkifdadhojbohaaDoorW.PrintLast Go.Proofs.YtkifdadhojbohaaDoorW.PrintMore
attribute [local go_sem] max2_int min2_int max_two min_two max_three min_three max_four min_four   -- for this text's walks alone
set_option linter.unusedVariables false
set_option linter.unusedSimpArgs false
def parser_Same.f (WF : Nat → List S41 → List S41 → Unit → Option Bool) (k : Nat) (l0 : List (S41)) (l1 : List (S41)) : Option (Bool) := (WF k l0 l1 ()).bind fun t101 => (some t101)
theorem parser_Same.mono (WF : Nat → List S41 → List S41 → Unit → Option Bool) (mWF : ∀ x0 x1 x2 k, LeO (WF k x0 x1 x2) (WF (k + 1) x0 x1 x2)) : ∀ a0 a1 k, LeO (parser_Same.f WF k a0 a1) (parser_Same.f WF (k + 1) a0 a1) := by
 intro a0 a1 k
 unfold parser_Same.f
 repeat' first
   | (with_reducible exact LeO.refl _)
   | exact mWF _ _ _ _
   | exact LeO.none _
   | refine LeO.ite ?_ ?_
   | refine LeO.bind ?_ (fun _ => ?_)
set_option maxHeartbeats 8000000 in
set_option maxRecDepth 100000 in
theorem parser_Same.calls (WF : Nat → List S41 → List S41 → Unit → Option Bool) (hWF : ∀ (k : Nat) (A0 : Option Addr) (c0 : Nat) (l0 : List (S41)) (A1 : Option Addr) (c1 : Nat) (l1 : List (S41)) (a2 : Unit) (r : Bool) (w : World) (hr0 : Kd.C k41 w A0 l0.length l0) (hc0 : l0.length ≤ c0) (hr1 : Kd.C k41 w A1 l1.length l1) (hc1 : l1.length ≤ c1) (h : WF k l0 l1 a2 = some r), Calls Tryd.prog 57 #[.slice A0 l0.length c0, .slice A1 l1.length c1, .func (.func 58) #[] #[]] w fun e w' => e = .returned (.bool r) ∧ Below w.heap.size w w') (k : Nat) (A0 : Option Addr) (c0 : Nat) (l0 : List (S41)) (A1 : Option Addr) (c1 : Nat) (l1 : List (S41)) (r : Bool) (w : World) (hr0 : Kd.C k41 w A0 l0.length l0) (hc0 : l0.length ≤ c0) (hr1 : Kd.C k41 w A1 l1.length l1) (hc1 : l1.length ≤ c1) (h : parser_Same.f WF k l0 l1 = some r) :
  Calls Tryd.prog 29 #[.slice A0 l0.length c0, .slice A1 l1.length c1] w fun e w' => e = .returned (.bool r) ∧ Below w.heap.size w w' := by
 have HR0 := Aside0.mk hr0
 have HC0 := Aside0.mk hc0
 clear hr0 hc0
 have HR1 := Aside0.mk hr1
 have HC1 := Aside0.mk hc1
 clear hr1 hc1
 have HB := Aside0.mk (Below.refl w.heap.size w)
 have H : ((WF k l0 l1 ()).bind fun t101 => (some t101)) = some r := h
 clear h
 replace H := Option.bind_eq_some_iff.mp H
 obtain ⟨t101, A30, H⟩ := H
 (try dsimp only at H)
 have A3 := Aside0.mk A30
 clear A30
 obtain rfl := Option.some.inj H
 go_enter Tryd.func29, Tryd.ntmps29
 go_wp2_with (first | ((with_reducible refine gate_callee (f := 57) rfl ?_); refine goesL_ (some 7) rfl rfl Tryd.func57 (by kernel_rfl) rfl #[.slice A0 l0.length c0, .slice A1 l1.length c1, .func (.func 58) #[] #[]] rfl ga_ ?_; (with_reducible refine (hWF k _ _ l0 _ _ l1 () t101 _ ?side1 ?side2 ?side3 ?side4 A3.out).mono ?_); (case side1 => repeat (first | exact HR0.out | (with_reducible refine Kd.C_alloc ?_ _) | (with_reducible refine Kd.C_drewN ?_ _) | (with_reducible refine Kd.C_drew ?_))); (case side2 => exact HC0.out); (case side3 => repeat (first | exact HR1.out | (with_reducible refine Kd.C_alloc ?_ _) | (with_reducible refine Kd.C_drewN ?_ _) | (with_reducible refine Kd.C_drew ?_))); (case side4 => exact HC1.out); rintro e w4 ⟨rfl, hb⟩; refine ⟨_, rfl, ?_⟩; refine cut1_ (below_step (bl_ HB.out) hb) ?_; clear HB; intro HB; (try clear hb); (try clear hb2); (try clear hk); (try clear hi)))
 go_ret
 exact ⟨er_, bl_ HB.out⟩
def parser_Same_1_1.f (a0_0 : Int) (a0_1 : ByteArray) (a0_2 : Int) (a0_3 : Int) (a1_0 : Int) (a1_1 : ByteArray) (a1_2 : Int) (a1_3 : Int) : Option (Bool) := if a0_0 = a1_0 then (if a0_1.toList = a1_1.toList then (some (a0_2 == a1_2)) else (some false)) else (some false)
set_option maxHeartbeats 8000000 in
set_option maxRecDepth 100000 in
theorem parser_Same_1_1.calls (a0_0 : Int) (a0_1 : ByteArray) (a0_2 : Int) (a0_3 : Int) (a1_0 : Int) (a1_1 : ByteArray) (a1_2 : Int) (a1_3 : Int) (r : Bool) (w : World) (h : parser_Same_1_1.f a0_0 a0_1 a0_2 a0_3 a1_0 a1_1 a1_2 a1_3 = some r) :
  Calls Tryd.prog 60 #[.agg #[.int .i64 a0_0, .string a0_1, .int .i64 a0_2, .int .i64 a0_3], .agg #[.int .i64 a1_0, .string a1_1, .int .i64 a1_2, .int .i64 a1_3]] w fun e w' => e = .returned (.bool r) ∧ Below w.heap.size w w' := by
 have hu46 := Tryd.underlying46
 have HB := Aside0.mk (Below.refl w.heap.size w)
 have H : (if a0_0 = a1_0 then (if a0_1.toList = a1_1.toList then (some (a0_2 == a1_2)) else (some false)) else (some false)) = some r := h
 clear h
 by_cases c3 : a0_0 = a1_0
 ·
  rw [if_pos c3] at H
  have c3b0 := beq_iff_eq.mpr c3
  have c3b1 := bne_eq_false_iff_eq.mpr c3
  clear c3
  by_cases c4 : a0_1.toList = a1_1.toList
  ·
   rw [if_pos c4] at H
   have c4b0 := beq_iff_eq.mpr c4
   have c4b1 := bne_eq_false_iff_eq.mpr c4
   clear c4
   obtain rfl := Option.some.inj H
   go_enter Tryd.func60, Tryd.ntmps60
   go_wp2_with (first | ((with_reducible refine gate_dst (N := 2) rfl ?_); refine bx_ (N := 2) (cs := #[.int .i64 a0_0, .string a0_1, .int .i64 a0_2, .int .i64 a0_3]) (t := 46) ?_; intro gb101 hg w5 hbox hb; refine cut4_ (below_step (bl_ HB.out) hb) (hbox) (bz_ (w := w) hg (bl_ HB.out)) (bz_ (w := w) hg (bl_ HB.out)) ?_; clear HB; intro HB BK101 GW101 GE101; clear hb hbox hg) | ((with_reducible refine gate_dst (N := 3) rfl ?_); refine bx_ (N := 3) (cs := #[.int .i64 a1_0, .string a1_1, .int .i64 a1_2, .int .i64 a1_3]) (t := 46) ?_; intro gb102 hg w6 hbox hb; refine cut7_ (bb_ BK101.out hb) (below_step (bl1_ HB.out GE101.out) hb) (hbox) (bz_ (w := w) hg (bl1_ HB.out GE101.out)) (bz_ (w := w) hg (bl1_ HB.out GE101.out)) (nl_ hg BK101.out) (ng_ hg BK101.out) ?_; clear BK101 HB; intro BK101 HB BK102 GW102 GE102 NB101_102 NB102_101; clear hb hbox hg; have hnb7 := NB101_102.out; have hnc7 := NB102_101.out; obtain ⟨hcz8_0, hcz8_1, hcz8_2, hcz8_3, hfz8_0, hfz8_1, hfz8_2, hfz8_3⟩ := cq4_ BK101.out; obtain ⟨hcz9_0, hcz9_1, hcz9_2, hcz9_3, hfz9_0, hfz9_1, hfz9_2, hfz9_3⟩ := cq4_ BK102.out))
   go_ret
   exact ⟨er_, bl2_ HB.out GE101.out GE102.out⟩
  ·
   rw [if_neg c4] at H
   have c4b0 := beq_eq_false_iff_ne.mpr c4
   have c4b1 := bne_iff_ne.mpr c4
   obtain rfl := Option.some.inj H
   go_enter Tryd.func60, Tryd.ntmps60
   go_wp2_with (first | ((with_reducible refine gate_dst (N := 2) rfl ?_); refine bx_ (N := 2) (cs := #[.int .i64 a0_0, .string a0_1, .int .i64 a0_2, .int .i64 a0_3]) (t := 46) ?_; intro gb101 hg w10 hbox hb; refine cut4_ (below_step (bl_ HB.out) hb) (hbox) (bz_ (w := w) hg (bl_ HB.out)) (bz_ (w := w) hg (bl_ HB.out)) ?_; clear HB; intro HB BK101 GW101 GE101; clear hb hbox hg) | ((with_reducible refine gate_dst (N := 3) rfl ?_); refine bx_ (N := 3) (cs := #[.int .i64 a1_0, .string a1_1, .int .i64 a1_2, .int .i64 a1_3]) (t := 46) ?_; intro gb102 hg w11 hbox hb; refine cut7_ (bb_ BK101.out hb) (below_step (bl1_ HB.out GE101.out) hb) (hbox) (bz_ (w := w) hg (bl1_ HB.out GE101.out)) (bz_ (w := w) hg (bl1_ HB.out GE101.out)) (nl_ hg BK101.out) (ng_ hg BK101.out) ?_; clear BK101 HB; intro BK101 HB BK102 GW102 GE102 NB101_102 NB102_101; clear hb hbox hg; have hnb12 := NB101_102.out; have hnc12 := NB102_101.out; obtain ⟨hcz13_0, hcz13_1, hcz13_2, hcz13_3, hfz13_0, hfz13_1, hfz13_2, hfz13_3⟩ := cq4_ BK101.out; obtain ⟨hcz14_0, hcz14_1, hcz14_2, hcz14_3, hfz14_0, hfz14_1, hfz14_2, hfz14_3⟩ := cq4_ BK102.out))
   go_ret
   exact ⟨er_, bl2_ HB.out GE101.out GE102.out⟩
 ·
  rw [if_neg c3] at H
  have c3b0 := beq_eq_false_iff_ne.mpr c3
  have c3b1 := bne_iff_ne.mpr c3
  obtain rfl := Option.some.inj H
  go_enter Tryd.func60, Tryd.ntmps60
  go_wp2_with (first | ((with_reducible refine gate_dst (N := 2) rfl ?_); refine bx_ (N := 2) (cs := #[.int .i64 a0_0, .string a0_1, .int .i64 a0_2, .int .i64 a0_3]) (t := 46) ?_; intro gb101 hg w15 hbox hb; refine cut4_ (below_step (bl_ HB.out) hb) (hbox) (bz_ (w := w) hg (bl_ HB.out)) (bz_ (w := w) hg (bl_ HB.out)) ?_; clear HB; intro HB BK101 GW101 GE101; clear hb hbox hg) | ((with_reducible refine gate_dst (N := 3) rfl ?_); refine bx_ (N := 3) (cs := #[.int .i64 a1_0, .string a1_1, .int .i64 a1_2, .int .i64 a1_3]) (t := 46) ?_; intro gb102 hg w16 hbox hb; refine cut7_ (bb_ BK101.out hb) (below_step (bl1_ HB.out GE101.out) hb) (hbox) (bz_ (w := w) hg (bl1_ HB.out GE101.out)) (bz_ (w := w) hg (bl1_ HB.out GE101.out)) (nl_ hg BK101.out) (ng_ hg BK101.out) ?_; clear BK101 HB; intro BK101 HB BK102 GW102 GE102 NB101_102 NB102_101; clear hb hbox hg; have hnb17 := NB101_102.out; have hnc17 := NB102_101.out; obtain ⟨hcz18_0, hcz18_1, hcz18_2, hcz18_3, hfz18_0, hfz18_1, hfz18_2, hfz18_3⟩ := cq4_ BK101.out; obtain ⟨hcz19_0, hcz19_1, hcz19_2, hcz19_3, hfz19_0, hfz19_1, hfz19_2, hfz19_3⟩ := cq4_ BK102.out))
  go_ret
  exact ⟨er_, bl2_ HB.out GE101.out GE102.out⟩
def api_Token.l0 : Nat → List (S46) → List (S46) → Int → Int → Option (Bool)
 | 0, _, _, _, _ => none
 | k + 1, x1, x15, x16, x17 => if x17 < x16 then (if 0 ≤ x17 then (if x17 < (x15.length : Int) then (if x17 < (x1.length : Int) then ((parser_Same_1_1.f ((rd_T46 x15 x17).f0) ((rd_T46 x15 x17).f1) ((rd_T46 x15 x17).f2) ((rd_T46 x15 x17).f3) ((rd_T46 x1 x17).f0) ((rd_T46 x1 x17).f1) ((rd_T46 x1 x17).f2) ((rd_T46 x1 x17).f3)).bind fun t107 => (if t107 = true then (api_Token.l0 k x1 x15 x16 (wrap64 (x17 + 1))) else (some false))) else (none)) else (none)) else (none)) else (some true)
def api_Token.f (k : Nat) (l0 : List (S46)) (l1 : List (S46)) (a2 : Unit) : Option (Bool) := if (l0.length : Int) = (l1.length : Int) then (api_Token.l0 k l1 l0 (l0.length : Int) 0) else (some false)
theorem api_Token.mono_l : ∀ k, (∀ y0 y1 y2 y3, LeO (api_Token.l0 k y0 y1 y2 y3) (api_Token.l0 (k + 1) y0 y1 y2 y3))
 | 0 => fun _ _ _ _ r h => by simp [api_Token.l0] at h
 | k + 1 => by
  have ih0 := api_Token.mono_l k
  ·
   intro y0 y1 y2 y3
   unfold api_Token.l0
   repeat' first
   | (with_reducible exact LeO.refl _)
   | exact ih0 _ _ _ _
   | exact LeO.none _
   | refine LeO.ite ?_ ?_
   | refine LeO.bind ?_ (fun _ => ?_)
theorem api_Token.mono : ∀ a0 a1 a2 k, LeO (api_Token.f k a0 a1 a2) (api_Token.f (k + 1) a0 a1 a2) := by
 intro a0 a1 a2 k
 have ih0 := api_Token.mono_l k
 unfold api_Token.f
 repeat' first
   | (with_reducible exact LeO.refl _)
   | exact ih0 _ _ _ _
   | exact LeO.none _
   | refine LeO.ite ?_ ?_
   | refine LeO.bind ?_ (fun _ => ?_)
set_option maxHeartbeats 8000000 in
set_option maxRecDepth 100000 in
theorem api_Token.calls (k : Nat) (A0 : Option Addr) (c0 : Nat) (l0 : List (S46)) (A1 : Option Addr) (c1 : Nat) (l1 : List (S46)) (a2 : Unit) (r : Bool) (w : World) (hr0 : Kd.C k46 w A0 l0.length l0) (hc0 : l0.length ≤ c0) (hr1 : Kd.C k46 w A1 l1.length l1) (hc1 : l1.length ≤ c1) (h : api_Token.f k l0 l1 a2 = some r) :
  Calls Tryd.prog 59 #[.slice A0 l0.length c0, .slice A1 l1.length c1, .func (.func 60) #[] #[]] w fun e w' => e = .returned (.bool r) ∧ Below w.heap.size w w' := by
 have hu46 := Tryd.underlying46
 have HR0 := Aside0.mk hr0
 have HC0 := Aside0.mk hc0
 clear hr0 hc0
 have HR1 := Aside0.mk hr1
 have HC1 := Aside0.mk hc1
 clear hr1 hc1
 have HB := Aside0.mk (Below.refl w.heap.size w)
 have H : (if (l0.length : Int) = (l1.length : Int) then (api_Token.l0 k l1 l0 (l0.length : Int) 0) else (some false)) = some r := h
 clear h
 by_cases c4 : (l0.length : Int) = (l1.length : Int)
 ·
  rw [if_pos c4] at H
  have c4b0 := beq_iff_eq.mpr c4
  have c4b1 := bne_eq_false_iff_eq.mpr c4
  have c4b2 : (l0.length == l1.length) = true := by first | simpa using c4 | (simp at c4 ⊢; omega)
  clear c4
  have H' := Aside0.mk H
  clear H
  go_enter Tryd.func59, Tryd.ntmps59
  go_wp2
  go_loopg [17] k (fun kq v17 w' => ∃ (x17_1 : Int), v17 = .int .i64 x17_1 ∧ Aside0 (api_Token.l0 kq l1 l0 (l0.length : Int) x17_1 = some r) ∧ Aside0 (kq ≤ k) ∧ Aside0 (Below w.heap.size w w'))
  case atStart => exact ⟨(0), sr_, H', ⟨Nat.le_refl _⟩, ⟨bl_ HB.out⟩⟩
  case round =>
   clear H'
   try clear c1
   try clear p2
   try clear c4
   try clear c4b0
   try clear c4b1
   try clear c4b2
   obtain ⟨x17_1, rfl, HA, HK1, HB⟩ := hrel
   cases gk with
   | zero => exact absurd HA.out (by simp [api_Token.l0])
   | succ k1 =>
    have H := HA.out
    clear HA
    simp only [api_Token.l0] at H
    by_cases c5 : x17_1 < (l0.length : Int)
    ·
     rw [if_pos c5] at H
     have c5b0 := decide_eq_true c5
     clear c5
     by_cases c6 : 0 ≤ x17_1
     ·
      rw [if_pos c6] at H
      have c6b0 := decide_eq_true c6
      clear c6
      by_cases c7 : x17_1 < (l0.length : Int)
      ·
       rw [if_pos c7] at H
       have c7b0 := decide_eq_true c7
       clear c7
       by_cases c8 : x17_1 < (l1.length : Int)
       ·
        rw [if_pos c8] at H
        have c8b0 := decide_eq_true c8
        clear c8
        replace H := Option.bind_eq_some_iff.mp H
        obtain ⟨t107, A90, H⟩ := H
        (try dsimp only at H)
        have A9 := Aside0.mk A90
        clear A90
        by_cases c10 : t107 = true
        ·
         subst c10
         have H1 : (api_Token.l0 k1 l1 l0 (l0.length : Int) (wrap64 (x17_1 + 1))) = some r := by rw [if_pos rfl] at H; exact H
         clear H
         have H := H1
         clear H1
         have H' := Aside0.mk H
         clear H
         have p103 : 0 ≤ (x17_1 : Int) := dt_
         have q103 : x17_1 < (l0.length : Int) := dt_
         obtain ⟨ad103, e103, hx103_0, hx103_1, hx103_2, hx103_3⟩ := at_T46 HR0.out x17_1 p103 q103
         cases e103
         replace hx103_0 := pw_cell_below HB.out hx103_0
         replace hx103_1 := pw_cell_below HB.out hx103_1
         replace hx103_2 := pw_cell_below HB.out hx103_2
         replace hx103_3 := pw_cell_below HB.out hx103_3
         replace p103 := eq_true p103
         replace q103 := eq_true q103
         go_wp2_with (first | ((with_reducible refine gate_dst (N := 8) rfl ?_); refine bx_ (N := 8) (cs := #[.int .i64 0, .string (⟨#[]⟩ : ByteArray), .int .i64 0, .int .i64 0]) (t := 46) ?_; intro gb104 hg w11 hbox hb; refine cut4_ (below_step (bl_ HB.out) hb) (hbox) (bz_ (w := w) hg (bl_ HB.out)) (bz_ (w := w) hg (bl_ HB.out)) ?_; clear HB; intro HB BK104 GW104 GE104; clear hb hbox hg; obtain ⟨hcz12_0, hcz12_1, hcz12_2, hcz12_3, hfz12_0, hfz12_1, hfz12_2, hfz12_3⟩ := cq4_ BK104.out; have p105 : 0 ≤ (x17_1 : Int) := dt_; have q105 : x17_1 < (l1.length : Int) := dt_; obtain ⟨ad105, e105, hx105_0, hx105_1, hx105_2, hx105_3⟩ := at_T46 HR1.out x17_1 p105 q105; cases e105; have hn105_0 : ad105.block ≠ gb104 := Nat.ne_of_lt (Nat.lt_of_lt_of_le (by have := World.block_lt_of_cell? _ _ hx105_0; first | rwa [add_block] at this | exact this) GW104.out); have hn105_1 : ad105.block ≠ gb104 := Nat.ne_of_lt (Nat.lt_of_lt_of_le (by have := World.block_lt_of_cell? _ _ hx105_0; first | rwa [add_block] at this | exact this) GW104.out); have hn105_2 : ad105.block ≠ gb104 := Nat.ne_of_lt (Nat.lt_of_lt_of_le (by have := World.block_lt_of_cell? _ _ hx105_0; first | rwa [add_block] at this | exact this) GW104.out); have hn105_3 : ad105.block ≠ gb104 := Nat.ne_of_lt (Nat.lt_of_lt_of_le (by have := World.block_lt_of_cell? _ _ hx105_0; first | rwa [add_block] at this | exact this) GW104.out); replace hx105_0 := pw_cell_below HB.out hx105_0; replace hx105_1 := pw_cell_below HB.out hx105_1; replace hx105_2 := pw_cell_below HB.out hx105_2; replace hx105_3 := pw_cell_below HB.out hx105_3; replace hx105_0 := cx_ gb104 0 (.int .i64 ((rd_T46 l0 x17_1).f0)) hn105_0 hx105_0; replace hx105_1 := cx_ gb104 0 (.int .i64 ((rd_T46 l0 x17_1).f0)) hn105_0 hx105_1; replace hx105_2 := cx_ gb104 0 (.int .i64 ((rd_T46 l0 x17_1).f0)) hn105_0 hx105_2; replace hx105_3 := cx_ gb104 0 (.int .i64 ((rd_T46 l0 x17_1).f0)) hn105_0 hx105_3; replace hx105_0 := cx_ gb104 1 (.string ((rd_T46 l0 x17_1).f1)) hn105_1 hx105_0; replace hx105_1 := cx_ gb104 1 (.string ((rd_T46 l0 x17_1).f1)) hn105_1 hx105_1; replace hx105_2 := cx_ gb104 1 (.string ((rd_T46 l0 x17_1).f1)) hn105_1 hx105_2; replace hx105_3 := cx_ gb104 1 (.string ((rd_T46 l0 x17_1).f1)) hn105_1 hx105_3; replace hx105_0 := cx_ gb104 2 (.int .i64 ((rd_T46 l0 x17_1).f2)) hn105_2 hx105_0; replace hx105_1 := cx_ gb104 2 (.int .i64 ((rd_T46 l0 x17_1).f2)) hn105_2 hx105_1; replace hx105_2 := cx_ gb104 2 (.int .i64 ((rd_T46 l0 x17_1).f2)) hn105_2 hx105_2; replace hx105_3 := cx_ gb104 2 (.int .i64 ((rd_T46 l0 x17_1).f2)) hn105_2 hx105_3; replace hx105_0 := cx_ gb104 3 (.int .i64 ((rd_T46 l0 x17_1).f3)) hn105_3 hx105_0; replace hx105_1 := cx_ gb104 3 (.int .i64 ((rd_T46 l0 x17_1).f3)) hn105_3 hx105_1; replace hx105_2 := cx_ gb104 3 (.int .i64 ((rd_T46 l0 x17_1).f3)) hn105_3 hx105_2; replace hx105_3 := cx_ gb104 3 (.int .i64 ((rd_T46 l0 x17_1).f3)) hn105_3 hx105_3; clear hn105_0; clear hn105_1; clear hn105_2; clear hn105_3; replace p105 := eq_true p105; replace q105 := eq_true q105) | ((with_reducible refine gate_dst (N := 9) rfl ?_); refine bx_ (N := 9) (cs := #[.int .i64 0, .string (⟨#[]⟩ : ByteArray), .int .i64 0, .int .i64 0]) (t := 46) ?_; intro gb106 hg w13 hbox hb; refine cut7_ (blk_below (g := gb104) (o := .cells #[.int .i64 ((rd_T46 l0 x17_1).f0), .string ((rd_T46 l0 x17_1).f1), .int .i64 ((rd_T46 l0 x17_1).f2), .int .i64 ((rd_T46 l0 x17_1).f3)] 46 (0, 0)) (put4_ (bk_ BK104.out)) hb) (below_step (bl1_ HB.out GE104.out) hb) (hbox) (bz_ (w := w) hg (bl1_ HB.out GE104.out)) (bz_ (w := w) hg (bl1_ HB.out GE104.out)) ((by rw [hg]; exact Nat.ne_of_lt (blk_lt (g := gb104) (o := .cells #[.int .i64 ((rd_T46 l0 x17_1).f0), .string ((rd_T46 l0 x17_1).f1), .int .i64 ((rd_T46 l0 x17_1).f2), .int .i64 ((rd_T46 l0 x17_1).f3)] 46 (0, 0)) (by exact put4_ (bk_ BK104.out))) : gb104 ≠ gb106)) ((by rw [hg]; exact Nat.ne_of_gt (blk_lt (g := gb104) (o := .cells #[.int .i64 ((rd_T46 l0 x17_1).f0), .string ((rd_T46 l0 x17_1).f1), .int .i64 ((rd_T46 l0 x17_1).f2), .int .i64 ((rd_T46 l0 x17_1).f3)] 46 (0, 0)) (by exact put4_ (bk_ BK104.out))) : gb106 ≠ gb104)) ?_; clear BK104 HB; intro BK104 HB BK106 GW106 GE106 NB104_106 NB106_104; clear hb hbox hg; have hnb14 := NB106_104.out; have hnc14 := NB104_106.out; obtain ⟨hcz15_0, hcz15_1, hcz15_2, hcz15_3, hfz15_0, hfz15_1, hfz15_2, hfz15_3⟩ := cq4_ BK106.out; obtain ⟨hcz16_0, hcz16_1, hcz16_2, hcz16_3, hfz16_0, hfz16_1, hfz16_2, hfz16_3⟩ := cq4_ BK104.out) | ((with_reducible refine (parser_Same_1_1.calls ((rd_T46 l0 x17_1).f0) ((rd_T46 l0 x17_1).f1) ((rd_T46 l0 x17_1).f2) ((rd_T46 l0 x17_1).f3) ((rd_T46 l1 x17_1).f0) ((rd_T46 l1 x17_1).f1) ((rd_T46 l1 x17_1).f2) ((rd_T46 l1 x17_1).f3) true _ A9.out).mono ?_); rintro e w17 ⟨rfl, hb⟩; refine cut3_ (blk_below (g := gb104) (o := .cells #[.int .i64 ((rd_T46 l0 x17_1).f0), .string ((rd_T46 l0 x17_1).f1), .int .i64 ((rd_T46 l0 x17_1).f2), .int .i64 ((rd_T46 l0 x17_1).f3)] 46 (0, 0)) (far4_ (bk_ BK104.out) NB104_106.out) hb) (blk_below (g := gb106) (o := .cells #[.int .i64 ((rd_T46 l1 x17_1).f0), .string ((rd_T46 l1 x17_1).f1), .int .i64 ((rd_T46 l1 x17_1).f2), .int .i64 ((rd_T46 l1 x17_1).f3)] 46 (0, 0)) (put4_ (bk_ BK106.out)) hb) (below_step (bl2_ HB.out GE104.out GE106.out) hb) ?_; clear BK104 BK106 HB; intro BK104 BK106 HB; (try clear hb); (try clear hb2); (try clear hk); (try clear hi)))
         go_roundg k1
         case measure => have := HK1.out; omega
         case rel => exact ⟨(wrap64 (x17_1 + 1)), sr_, H', ⟨by have := HK1.out; omega⟩, ⟨bl2_ HB.out GE104.out GE106.out⟩⟩
        ·
         replace c10 := Bool.eq_false_iff.mpr c10
         subst c10
         have H1 : (some false) = some r := by rw [if_neg (show ¬ (false = true) by decide)] at H; exact H
         clear H
         have H := H1
         clear H1
         obtain rfl := Option.some.inj H
         have p103 : 0 ≤ (x17_1 : Int) := dt_
         have q103 : x17_1 < (l0.length : Int) := dt_
         obtain ⟨ad103, e103, hx103_0, hx103_1, hx103_2, hx103_3⟩ := at_T46 HR0.out x17_1 p103 q103
         cases e103
         replace hx103_0 := pw_cell_below HB.out hx103_0
         replace hx103_1 := pw_cell_below HB.out hx103_1
         replace hx103_2 := pw_cell_below HB.out hx103_2
         replace hx103_3 := pw_cell_below HB.out hx103_3
         replace p103 := eq_true p103
         replace q103 := eq_true q103
         go_wp2_with (first | ((with_reducible refine gate_dst (N := 8) rfl ?_); refine bx_ (N := 8) (cs := #[.int .i64 0, .string (⟨#[]⟩ : ByteArray), .int .i64 0, .int .i64 0]) (t := 46) ?_; intro gb104 hg w18 hbox hb; refine cut4_ (below_step (bl_ HB.out) hb) (hbox) (bz_ (w := w) hg (bl_ HB.out)) (bz_ (w := w) hg (bl_ HB.out)) ?_; clear HB; intro HB BK104 GW104 GE104; clear hb hbox hg; obtain ⟨hcz19_0, hcz19_1, hcz19_2, hcz19_3, hfz19_0, hfz19_1, hfz19_2, hfz19_3⟩ := cq4_ BK104.out; have p105 : 0 ≤ (x17_1 : Int) := dt_; have q105 : x17_1 < (l1.length : Int) := dt_; obtain ⟨ad105, e105, hx105_0, hx105_1, hx105_2, hx105_3⟩ := at_T46 HR1.out x17_1 p105 q105; cases e105; have hn105_0 : ad105.block ≠ gb104 := Nat.ne_of_lt (Nat.lt_of_lt_of_le (by have := World.block_lt_of_cell? _ _ hx105_0; first | rwa [add_block] at this | exact this) GW104.out); have hn105_1 : ad105.block ≠ gb104 := Nat.ne_of_lt (Nat.lt_of_lt_of_le (by have := World.block_lt_of_cell? _ _ hx105_0; first | rwa [add_block] at this | exact this) GW104.out); have hn105_2 : ad105.block ≠ gb104 := Nat.ne_of_lt (Nat.lt_of_lt_of_le (by have := World.block_lt_of_cell? _ _ hx105_0; first | rwa [add_block] at this | exact this) GW104.out); have hn105_3 : ad105.block ≠ gb104 := Nat.ne_of_lt (Nat.lt_of_lt_of_le (by have := World.block_lt_of_cell? _ _ hx105_0; first | rwa [add_block] at this | exact this) GW104.out); replace hx105_0 := pw_cell_below HB.out hx105_0; replace hx105_1 := pw_cell_below HB.out hx105_1; replace hx105_2 := pw_cell_below HB.out hx105_2; replace hx105_3 := pw_cell_below HB.out hx105_3; replace hx105_0 := cx_ gb104 0 (.int .i64 ((rd_T46 l0 x17_1).f0)) hn105_0 hx105_0; replace hx105_1 := cx_ gb104 0 (.int .i64 ((rd_T46 l0 x17_1).f0)) hn105_0 hx105_1; replace hx105_2 := cx_ gb104 0 (.int .i64 ((rd_T46 l0 x17_1).f0)) hn105_0 hx105_2; replace hx105_3 := cx_ gb104 0 (.int .i64 ((rd_T46 l0 x17_1).f0)) hn105_0 hx105_3; replace hx105_0 := cx_ gb104 1 (.string ((rd_T46 l0 x17_1).f1)) hn105_1 hx105_0; replace hx105_1 := cx_ gb104 1 (.string ((rd_T46 l0 x17_1).f1)) hn105_1 hx105_1; replace hx105_2 := cx_ gb104 1 (.string ((rd_T46 l0 x17_1).f1)) hn105_1 hx105_2; replace hx105_3 := cx_ gb104 1 (.string ((rd_T46 l0 x17_1).f1)) hn105_1 hx105_3; replace hx105_0 := cx_ gb104 2 (.int .i64 ((rd_T46 l0 x17_1).f2)) hn105_2 hx105_0; replace hx105_1 := cx_ gb104 2 (.int .i64 ((rd_T46 l0 x17_1).f2)) hn105_2 hx105_1; replace hx105_2 := cx_ gb104 2 (.int .i64 ((rd_T46 l0 x17_1).f2)) hn105_2 hx105_2; replace hx105_3 := cx_ gb104 2 (.int .i64 ((rd_T46 l0 x17_1).f2)) hn105_2 hx105_3; replace hx105_0 := cx_ gb104 3 (.int .i64 ((rd_T46 l0 x17_1).f3)) hn105_3 hx105_0; replace hx105_1 := cx_ gb104 3 (.int .i64 ((rd_T46 l0 x17_1).f3)) hn105_3 hx105_1; replace hx105_2 := cx_ gb104 3 (.int .i64 ((rd_T46 l0 x17_1).f3)) hn105_3 hx105_2; replace hx105_3 := cx_ gb104 3 (.int .i64 ((rd_T46 l0 x17_1).f3)) hn105_3 hx105_3; clear hn105_0; clear hn105_1; clear hn105_2; clear hn105_3; replace p105 := eq_true p105; replace q105 := eq_true q105) | ((with_reducible refine gate_dst (N := 9) rfl ?_); refine bx_ (N := 9) (cs := #[.int .i64 0, .string (⟨#[]⟩ : ByteArray), .int .i64 0, .int .i64 0]) (t := 46) ?_; intro gb106 hg w20 hbox hb; refine cut7_ (blk_below (g := gb104) (o := .cells #[.int .i64 ((rd_T46 l0 x17_1).f0), .string ((rd_T46 l0 x17_1).f1), .int .i64 ((rd_T46 l0 x17_1).f2), .int .i64 ((rd_T46 l0 x17_1).f3)] 46 (0, 0)) (put4_ (bk_ BK104.out)) hb) (below_step (bl1_ HB.out GE104.out) hb) (hbox) (bz_ (w := w) hg (bl1_ HB.out GE104.out)) (bz_ (w := w) hg (bl1_ HB.out GE104.out)) ((by rw [hg]; exact Nat.ne_of_lt (blk_lt (g := gb104) (o := .cells #[.int .i64 ((rd_T46 l0 x17_1).f0), .string ((rd_T46 l0 x17_1).f1), .int .i64 ((rd_T46 l0 x17_1).f2), .int .i64 ((rd_T46 l0 x17_1).f3)] 46 (0, 0)) (by exact put4_ (bk_ BK104.out))) : gb104 ≠ gb106)) ((by rw [hg]; exact Nat.ne_of_gt (blk_lt (g := gb104) (o := .cells #[.int .i64 ((rd_T46 l0 x17_1).f0), .string ((rd_T46 l0 x17_1).f1), .int .i64 ((rd_T46 l0 x17_1).f2), .int .i64 ((rd_T46 l0 x17_1).f3)] 46 (0, 0)) (by exact put4_ (bk_ BK104.out))) : gb106 ≠ gb104)) ?_; clear BK104 HB; intro BK104 HB BK106 GW106 GE106 NB104_106 NB106_104; clear hb hbox hg; have hnb21 := NB106_104.out; have hnc21 := NB104_106.out; obtain ⟨hcz22_0, hcz22_1, hcz22_2, hcz22_3, hfz22_0, hfz22_1, hfz22_2, hfz22_3⟩ := cq4_ BK106.out; obtain ⟨hcz23_0, hcz23_1, hcz23_2, hcz23_3, hfz23_0, hfz23_1, hfz23_2, hfz23_3⟩ := cq4_ BK104.out) | ((with_reducible refine (parser_Same_1_1.calls ((rd_T46 l0 x17_1).f0) ((rd_T46 l0 x17_1).f1) ((rd_T46 l0 x17_1).f2) ((rd_T46 l0 x17_1).f3) ((rd_T46 l1 x17_1).f0) ((rd_T46 l1 x17_1).f1) ((rd_T46 l1 x17_1).f2) ((rd_T46 l1 x17_1).f3) false _ A9.out).mono ?_); rintro e w24 ⟨rfl, hb⟩; refine cut3_ (blk_below (g := gb104) (o := .cells #[.int .i64 ((rd_T46 l0 x17_1).f0), .string ((rd_T46 l0 x17_1).f1), .int .i64 ((rd_T46 l0 x17_1).f2), .int .i64 ((rd_T46 l0 x17_1).f3)] 46 (0, 0)) (far4_ (bk_ BK104.out) NB104_106.out) hb) (blk_below (g := gb106) (o := .cells #[.int .i64 ((rd_T46 l1 x17_1).f0), .string ((rd_T46 l1 x17_1).f1), .int .i64 ((rd_T46 l1 x17_1).f2), .int .i64 ((rd_T46 l1 x17_1).f3)] 46 (0, 0)) (put4_ (bk_ BK106.out)) hb) (below_step (bl2_ HB.out GE104.out GE106.out) hb) ?_; clear BK104 BK106 HB; intro BK104 BK106 HB; (try clear hb); (try clear hb2); (try clear hk); (try clear hi)))
         go_ret
         exact ⟨er_, bl2_ HB.out GE104.out GE106.out⟩
       ·
        rw [if_neg c8] at H
        exact absurd H (by simp)
      ·
       rw [if_neg c7] at H
       exact absurd H (by simp)
     ·
      rw [if_neg c6] at H
      exact absurd H (by simp)
    ·
     rw [if_neg c5] at H
     have c5b0 := decide_eq_false c5
     clear c5
     obtain rfl := Option.some.inj H
     go_wp2
     go_ret
     exact ⟨er_, bl_ HB.out⟩
 ·
  rw [if_neg c4] at H
  have c4b0 := beq_eq_false_iff_ne.mpr c4
  have c4b1 := bne_iff_ne.mpr c4
  have c4b2 : (l0.length == l1.length) = false := by first | simpa using c4 | (simp at c4 ⊢; omega)
  obtain rfl := Option.some.inj H
  go_enter Tryd.func59, Tryd.ntmps59
  go_wp2
  go_ret
  exact ⟨er_, bl_ HB.out⟩
def parser_Same_1.f (SF : Nat → List S41 → List S41 → Option Bool) (k : Nat) (a0_0 : ByteArray) (l0_1 : List (S46)) (a0_2 : Bool) (l0_3 : List (S41)) (a0_4 : Int) (a1_0 : ByteArray) (l1_1 : List (S46)) (a1_2 : Bool) (l1_3 : List (S41)) (a1_4 : Int) : Option (Bool) := if a0_0.toList = a1_0.toList then (if (a0_2 == a1_2) = true then ((SF k l0_3 l1_3).bind fun t110 => (if t110 = true then ((api_Token.f k l0_1 l1_1 ()).bind fun t111 => (some t111)) else (some false))) else (some false)) else (some false)
theorem parser_Same_1.mono (SF : Nat → List S41 → List S41 → Option Bool) (mSF : ∀ x0 x1 k, LeO (SF k x0 x1) (SF (k + 1) x0 x1)) : ∀ a0 a1 a2 a3 a4 a5 a6 a7 a8 a9 k, LeO (parser_Same_1.f SF k a0 a1 a2 a3 a4 a5 a6 a7 a8 a9) (parser_Same_1.f SF (k + 1) a0 a1 a2 a3 a4 a5 a6 a7 a8 a9) := by
 intro a0 a1 a2 a3 a4 a5 a6 a7 a8 a9 k
 unfold parser_Same_1.f
 repeat' first
   | (with_reducible exact LeO.refl _)
   | exact mSF _ _ _
   | exact api_Token.mono _ _ _ _
   | exact LeO.none _
   | refine LeO.ite ?_ ?_
   | refine LeO.bind ?_ (fun _ => ?_)
set_option maxHeartbeats 8000000 in
set_option maxRecDepth 100000 in
theorem parser_Same_1.calls (SF : Nat → List S41 → List S41 → Option Bool) (hSF : ∀ (k : Nat) (A0 : Option Addr) (c0 : Nat) (l0 : List (S41)) (A1 : Option Addr) (c1 : Nat) (l1 : List (S41)) (r : Bool) (w : World) (hr0 : Kd.C k41 w A0 l0.length l0) (hc0 : l0.length ≤ c0) (hr1 : Kd.C k41 w A1 l1.length l1) (hc1 : l1.length ≤ c1) (h : SF k l0 l1 = some r), Calls Tryd.prog 29 #[.slice A0 l0.length c0, .slice A1 l1.length c1] w fun e w' => e = .returned (.bool r) ∧ Below w.heap.size w w') (k : Nat) (a0_0 : ByteArray) (A0_1 : Option Addr) (c0_1 : Nat) (l0_1 : List (S46)) (a0_2 : Bool) (A0_3 : Option Addr) (c0_3 : Nat) (l0_3 : List (S41)) (a0_4 : Int) (a1_0 : ByteArray) (A1_1 : Option Addr) (c1_1 : Nat) (l1_1 : List (S46)) (a1_2 : Bool) (A1_3 : Option Addr) (c1_3 : Nat) (l1_3 : List (S41)) (a1_4 : Int) (r : Bool) (w : World) (hr0_1 : Kd.C k46 w A0_1 l0_1.length l0_1) (hc0_1 : l0_1.length ≤ c0_1) (hr0_3 : Kd.C k41 w A0_3 l0_3.length l0_3) (hc0_3 : l0_3.length ≤ c0_3) (hr1_1 : Kd.C k46 w A1_1 l1_1.length l1_1) (hc1_1 : l1_1.length ≤ c1_1) (hr1_3 : Kd.C k41 w A1_3 l1_3.length l1_3) (hc1_3 : l1_3.length ≤ c1_3) (h : parser_Same_1.f SF k a0_0 l0_1 a0_2 l0_3 a0_4 a1_0 l1_1 a1_2 l1_3 a1_4 = some r) :
  Calls Tryd.prog 58 #[.agg #[.string a0_0, .slice A0_1 l0_1.length c0_1, .bool a0_2, .slice A0_3 l0_3.length c0_3, .int .i64 a0_4], .agg #[.string a1_0, .slice A1_1 l1_1.length c1_1, .bool a1_2, .slice A1_3 l1_3.length c1_3, .int .i64 a1_4]] w fun e w' => e = .returned (.bool r) ∧ Below w.heap.size w w' := by
 have hu41 := Tryd.underlying41
 have HR0_1 := Aside0.mk hr0_1
 have HC0_1 := Aside0.mk hc0_1
 clear hr0_1 hc0_1
 have HR0_3 := Aside0.mk hr0_3
 have HC0_3 := Aside0.mk hc0_3
 clear hr0_3 hc0_3
 have HR1_1 := Aside0.mk hr1_1
 have HC1_1 := Aside0.mk hc1_1
 clear hr1_1 hc1_1
 have HR1_3 := Aside0.mk hr1_3
 have HC1_3 := Aside0.mk hc1_3
 clear hr1_3 hc1_3
 have HB := Aside0.mk (Below.refl w.heap.size w)
 have H : (if a0_0.toList = a1_0.toList then (if (a0_2 == a1_2) = true then ((SF k l0_3 l1_3).bind fun t110 => (if t110 = true then ((api_Token.f k l0_1 l1_1 ()).bind fun t111 => (some t111)) else (some false))) else (some false)) else (some false)) = some r := h
 clear h
 by_cases c3 : a0_0.toList = a1_0.toList
 ·
  rw [if_pos c3] at H
  have c3b0 := beq_iff_eq.mpr c3
  have c3b1 := bne_eq_false_iff_eq.mpr c3
  clear c3
  by_cases c4 : (a0_2 == a1_2) = true
  ·
   rw [if_pos c4] at H
   have c4b0 : (a0_2 == a1_2) = true := c4
   (try (have c4b1 : decide (a0_2 = a1_2) = true := by simpa using c4))
   (try (have c4b2 : (a0_2 == a1_2) = true := by simpa using c4))
   clear c4
   replace H := Option.bind_eq_some_iff.mp H
   obtain ⟨t110, A50, H⟩ := H
   (try dsimp only at H)
   have A5 := Aside0.mk A50
   clear A50
   by_cases c6 : t110 = true
   ·
    subst c6
    have H1 : ((api_Token.f k l0_1 l1_1 ()).bind fun t111 => (some t111)) = some r := by rw [if_pos rfl] at H; exact H
    clear H
    have H := H1
    clear H1
    replace H := Option.bind_eq_some_iff.mp H
    obtain ⟨t111, A70, H⟩ := H
    (try dsimp only at H)
    have A7 := Aside0.mk A70
    clear A70
    obtain rfl := Option.some.inj H
    go_enter Tryd.func58, Tryd.ntmps58
    go_wp2_with (first | ((with_reducible refine gate_dst (N := 2) rfl ?_); refine bx_ (N := 2) (cs := #[.string a0_0, .slice A0_1 l0_1.length c0_1, .bool a0_2, .slice A0_3 l0_3.length c0_3, .int .i64 a0_4]) (t := 41) ?_; intro gb108 hg w8 hbox hb; refine cut4_ (below_step (bl_ HB.out) hb) (hbox) (bz_ (w := w) hg (bl_ HB.out)) (bz_ (w := w) hg (bl_ HB.out)) ?_; clear HB; intro HB BK108 GW108 GE108; clear hb hbox hg) | ((with_reducible refine gate_dst (N := 3) rfl ?_); refine bx_ (N := 3) (cs := #[.string a1_0, .slice A1_1 l1_1.length c1_1, .bool a1_2, .slice A1_3 l1_3.length c1_3, .int .i64 a1_4]) (t := 41) ?_; intro gb109 hg w9 hbox hb; refine cut7_ (bb_ BK108.out hb) (below_step (bl1_ HB.out GE108.out) hb) (hbox) (bz_ (w := w) hg (bl1_ HB.out GE108.out)) (bz_ (w := w) hg (bl1_ HB.out GE108.out)) (nl_ hg BK108.out) (ng_ hg BK108.out) ?_; clear BK108 HB; intro BK108 HB BK109 GW109 GE109 NB108_109 NB109_108; clear hb hbox hg; have hnb10 := NB108_109.out; have hnc10 := NB109_108.out; obtain ⟨hcz11_0, hcz11_1, hcz11_2, hcz11_3, hcz11_4, hfz11_0, hfz11_1, hfz11_2, hfz11_3, hfz11_4⟩ := cq5_ BK108.out; obtain ⟨hcz12_0, hcz12_1, hcz12_2, hcz12_3, hcz12_4, hfz12_0, hfz12_1, hfz12_2, hfz12_3, hfz12_4⟩ := cq5_ BK109.out) | (go_at_call 29; (with_reducible refine (hSF k _ _ l0_3 _ _ l1_3 true _ ?side1 ?side2 ?side3 ?side4 A5.out).mono ?_); (case side1 => repeat (first | exact (Kd.C_below HR0_3.out HB.out) | (with_reducible refine Kd.C_alloc ?_ _) | (with_reducible refine Kd.C_drewN ?_ _) | (with_reducible refine Kd.C_drew ?_))); (case side2 => exact HC0_3.out); (case side3 => repeat (first | exact (Kd.C_below HR1_3.out HB.out) | (with_reducible refine Kd.C_alloc ?_ _) | (with_reducible refine Kd.C_drewN ?_ _) | (with_reducible refine Kd.C_drew ?_))); (case side4 => exact HC1_3.out); rintro e w13 ⟨rfl, hb⟩; refine cut3_ (bb_ BK108.out hb) (bb_ BK109.out hb) (below_step (bl2_ HB.out GE108.out GE109.out) hb) ?_; clear BK108 BK109 HB; intro BK108 BK109 HB; (try clear hb); (try clear hb2); (try clear hk); (try clear hi); obtain ⟨hcz14_0, hcz14_1, hcz14_2, hcz14_3, hcz14_4, hfz14_0, hfz14_1, hfz14_2, hfz14_3, hfz14_4⟩ := cq5_ BK108.out; obtain ⟨hcz15_0, hcz15_1, hcz15_2, hcz15_3, hcz15_4, hfz15_0, hfz15_1, hfz15_2, hfz15_3, hfz15_4⟩ := cq5_ BK109.out) | (go_at_call 59; (with_reducible refine (api_Token.calls k _ _ l0_1 _ _ l1_1 () t111 _ ?side1 ?side2 ?side3 ?side4 A7.out).mono ?_); (case side1 => repeat (first | exact (Kd.C_below HR0_1.out HB.out) | (with_reducible refine Kd.C_alloc ?_ _) | (with_reducible refine Kd.C_drewN ?_ _) | (with_reducible refine Kd.C_drew ?_))); (case side2 => exact HC0_1.out); (case side3 => repeat (first | exact (Kd.C_below HR1_1.out HB.out) | (with_reducible refine Kd.C_alloc ?_ _) | (with_reducible refine Kd.C_drewN ?_ _) | (with_reducible refine Kd.C_drew ?_))); (case side4 => exact HC1_1.out); rintro e w16 ⟨rfl, hb⟩; refine cut3_ (bb_ BK108.out hb) (bb_ BK109.out hb) (below_step (bl2_ HB.out GE108.out GE109.out) hb) ?_; clear BK108 BK109 HB; intro BK108 BK109 HB; (try clear hb); (try clear hb2); (try clear hk); (try clear hi)))
    go_ret
    exact ⟨er_, bl2_ HB.out GE108.out GE109.out⟩
   ·
    replace c6 := Bool.eq_false_iff.mpr c6
    subst c6
    have H1 : (some false) = some r := by rw [if_neg (show ¬ (false = true) by decide)] at H; exact H
    clear H
    have H := H1
    clear H1
    obtain rfl := Option.some.inj H
    go_enter Tryd.func58, Tryd.ntmps58
    go_wp2_with (first | ((with_reducible refine gate_dst (N := 2) rfl ?_); refine bx_ (N := 2) (cs := #[.string a0_0, .slice A0_1 l0_1.length c0_1, .bool a0_2, .slice A0_3 l0_3.length c0_3, .int .i64 a0_4]) (t := 41) ?_; intro gb108 hg w17 hbox hb; refine cut4_ (below_step (bl_ HB.out) hb) (hbox) (bz_ (w := w) hg (bl_ HB.out)) (bz_ (w := w) hg (bl_ HB.out)) ?_; clear HB; intro HB BK108 GW108 GE108; clear hb hbox hg) | ((with_reducible refine gate_dst (N := 3) rfl ?_); refine bx_ (N := 3) (cs := #[.string a1_0, .slice A1_1 l1_1.length c1_1, .bool a1_2, .slice A1_3 l1_3.length c1_3, .int .i64 a1_4]) (t := 41) ?_; intro gb109 hg w18 hbox hb; refine cut7_ (bb_ BK108.out hb) (below_step (bl1_ HB.out GE108.out) hb) (hbox) (bz_ (w := w) hg (bl1_ HB.out GE108.out)) (bz_ (w := w) hg (bl1_ HB.out GE108.out)) (nl_ hg BK108.out) (ng_ hg BK108.out) ?_; clear BK108 HB; intro BK108 HB BK109 GW109 GE109 NB108_109 NB109_108; clear hb hbox hg; have hnb19 := NB108_109.out; have hnc19 := NB109_108.out; obtain ⟨hcz20_0, hcz20_1, hcz20_2, hcz20_3, hcz20_4, hfz20_0, hfz20_1, hfz20_2, hfz20_3, hfz20_4⟩ := cq5_ BK108.out; obtain ⟨hcz21_0, hcz21_1, hcz21_2, hcz21_3, hcz21_4, hfz21_0, hfz21_1, hfz21_2, hfz21_3, hfz21_4⟩ := cq5_ BK109.out) | (go_at_call 29; (with_reducible refine (hSF k _ _ l0_3 _ _ l1_3 false _ ?side1 ?side2 ?side3 ?side4 A5.out).mono ?_); (case side1 => repeat (first | exact (Kd.C_below HR0_3.out HB.out) | (with_reducible refine Kd.C_alloc ?_ _) | (with_reducible refine Kd.C_drewN ?_ _) | (with_reducible refine Kd.C_drew ?_))); (case side2 => exact HC0_3.out); (case side3 => repeat (first | exact (Kd.C_below HR1_3.out HB.out) | (with_reducible refine Kd.C_alloc ?_ _) | (with_reducible refine Kd.C_drewN ?_ _) | (with_reducible refine Kd.C_drew ?_))); (case side4 => exact HC1_3.out); rintro e w22 ⟨rfl, hb⟩; refine cut3_ (bb_ BK108.out hb) (bb_ BK109.out hb) (below_step (bl2_ HB.out GE108.out GE109.out) hb) ?_; clear BK108 BK109 HB; intro BK108 BK109 HB; (try clear hb); (try clear hb2); (try clear hk); (try clear hi)))
    go_ret
    exact ⟨er_, bl2_ HB.out GE108.out GE109.out⟩
  ·
   rw [if_neg c4] at H
   have c4b0 : (a0_2 == a1_2) = false := by simpa using c4
   (try (have c4b1 : decide (a0_2 = a1_2) = false := by simpa using c4))
   (try (have c4b2 : (a0_2 == a1_2) = false := by simpa using c4))
   (try (have c4b3 : ¬ (a0_2 = a1_2) := by simpa using c4))
   clear c4
   obtain rfl := Option.some.inj H
   go_enter Tryd.func58, Tryd.ntmps58
   go_wp2_with (first | ((with_reducible refine gate_dst (N := 2) rfl ?_); refine bx_ (N := 2) (cs := #[.string a0_0, .slice A0_1 l0_1.length c0_1, .bool a0_2, .slice A0_3 l0_3.length c0_3, .int .i64 a0_4]) (t := 41) ?_; intro gb108 hg w23 hbox hb; refine cut4_ (below_step (bl_ HB.out) hb) (hbox) (bz_ (w := w) hg (bl_ HB.out)) (bz_ (w := w) hg (bl_ HB.out)) ?_; clear HB; intro HB BK108 GW108 GE108; clear hb hbox hg) | ((with_reducible refine gate_dst (N := 3) rfl ?_); refine bx_ (N := 3) (cs := #[.string a1_0, .slice A1_1 l1_1.length c1_1, .bool a1_2, .slice A1_3 l1_3.length c1_3, .int .i64 a1_4]) (t := 41) ?_; intro gb109 hg w24 hbox hb; refine cut7_ (bb_ BK108.out hb) (below_step (bl1_ HB.out GE108.out) hb) (hbox) (bz_ (w := w) hg (bl1_ HB.out GE108.out)) (bz_ (w := w) hg (bl1_ HB.out GE108.out)) (nl_ hg BK108.out) (ng_ hg BK108.out) ?_; clear BK108 HB; intro BK108 HB BK109 GW109 GE109 NB108_109 NB109_108; clear hb hbox hg; have hnb25 := NB108_109.out; have hnc25 := NB109_108.out; obtain ⟨hcz26_0, hcz26_1, hcz26_2, hcz26_3, hcz26_4, hfz26_0, hfz26_1, hfz26_2, hfz26_3, hfz26_4⟩ := cq5_ BK108.out; obtain ⟨hcz27_0, hcz27_1, hcz27_2, hcz27_3, hcz27_4, hfz27_0, hfz27_1, hfz27_2, hfz27_3, hfz27_4⟩ := cq5_ BK109.out))
   go_ret
   exact ⟨er_, bl2_ HB.out GE108.out GE109.out⟩
 ·
  rw [if_neg c3] at H
  have c3b0 := beq_eq_false_iff_ne.mpr c3
  have c3b1 := bne_iff_ne.mpr c3
  obtain rfl := Option.some.inj H
  go_enter Tryd.func58, Tryd.ntmps58
  go_wp2_with (first | ((with_reducible refine gate_dst (N := 2) rfl ?_); refine bx_ (N := 2) (cs := #[.string a0_0, .slice A0_1 l0_1.length c0_1, .bool a0_2, .slice A0_3 l0_3.length c0_3, .int .i64 a0_4]) (t := 41) ?_; intro gb108 hg w28 hbox hb; refine cut4_ (below_step (bl_ HB.out) hb) (hbox) (bz_ (w := w) hg (bl_ HB.out)) (bz_ (w := w) hg (bl_ HB.out)) ?_; clear HB; intro HB BK108 GW108 GE108; clear hb hbox hg) | ((with_reducible refine gate_dst (N := 3) rfl ?_); refine bx_ (N := 3) (cs := #[.string a1_0, .slice A1_1 l1_1.length c1_1, .bool a1_2, .slice A1_3 l1_3.length c1_3, .int .i64 a1_4]) (t := 41) ?_; intro gb109 hg w29 hbox hb; refine cut7_ (bb_ BK108.out hb) (below_step (bl1_ HB.out GE108.out) hb) (hbox) (bz_ (w := w) hg (bl1_ HB.out GE108.out)) (bz_ (w := w) hg (bl1_ HB.out GE108.out)) (nl_ hg BK108.out) (ng_ hg BK108.out) ?_; clear BK108 HB; intro BK108 HB BK109 GW109 GE109 NB108_109 NB109_108; clear hb hbox hg; have hnb30 := NB108_109.out; have hnc30 := NB109_108.out; obtain ⟨hcz31_0, hcz31_1, hcz31_2, hcz31_3, hcz31_4, hfz31_0, hfz31_1, hfz31_2, hfz31_3, hfz31_4⟩ := cq5_ BK108.out; obtain ⟨hcz32_0, hcz32_1, hcz32_2, hcz32_3, hcz32_4, hfz32_0, hfz32_1, hfz32_2, hfz32_3, hfz32_4⟩ := cq5_ BK109.out))
  go_ret
  exact ⟨er_, bl2_ HB.out GE108.out GE109.out⟩
def api_Clause.l0 (HF : Nat → ByteArray → List S46 → Bool → List S41 → Int → ByteArray → List S46 → Bool → List S41 → Int → Option Bool) : Nat → List (S41) → List (S41) → Int → Int → Option (Bool)
 | 0, _, _, _, _ => none
 | k + 1, x1, x15, x16, x17 => if x17 < x16 then (if 0 ≤ x17 then (if x17 < (x15.length : Int) then (if x17 < (x1.length : Int) then ((HF k ((rd_T41 x15 x17).f0) ((rd_T41 x15 x17).f1) ((rd_T41 x15 x17).f2) ((rd_T41 x15 x17).f3) ((rd_T41 x15 x17).f4) ((rd_T41 x1 x17).f0) ((rd_T41 x1 x17).f1) ((rd_T41 x1 x17).f2) ((rd_T41 x1 x17).f3) ((rd_T41 x1 x17).f4)).bind fun t116 => (if t116 = true then (api_Clause.l0 HF k x1 x15 x16 (wrap64 (x17 + 1))) else (some false))) else (none)) else (none)) else (none)) else (some true)
def api_Clause.f (HF : Nat → ByteArray → List S46 → Bool → List S41 → Int → ByteArray → List S46 → Bool → List S41 → Int → Option Bool) (k : Nat) (l0 : List (S41)) (l1 : List (S41)) (a2 : Unit) : Option (Bool) := if (l0.length : Int) = (l1.length : Int) then (api_Clause.l0 HF k l1 l0 (l0.length : Int) 0) else (some false)
theorem api_Clause.mono_l (HF : Nat → ByteArray → List S46 → Bool → List S41 → Int → ByteArray → List S46 → Bool → List S41 → Int → Option Bool) (mHF : ∀ x0 x1 x2 x3 x4 x5 x6 x7 x8 x9 k, LeO (HF k x0 x1 x2 x3 x4 x5 x6 x7 x8 x9) (HF (k + 1) x0 x1 x2 x3 x4 x5 x6 x7 x8 x9)) : ∀ k, (∀ y0 y1 y2 y3, LeO (api_Clause.l0 HF k y0 y1 y2 y3) (api_Clause.l0 HF (k + 1) y0 y1 y2 y3))
 | 0 => fun _ _ _ _ r h => by simp [api_Clause.l0] at h
 | k + 1 => by
  have ih0 := api_Clause.mono_l HF mHF k
  ·
   intro y0 y1 y2 y3
   unfold api_Clause.l0
   repeat' first
   | (with_reducible exact LeO.refl _)
   | exact ih0 _ _ _ _
   | exact mHF _ _ _ _ _ _ _ _ _ _ _
   | exact LeO.none _
   | refine LeO.ite ?_ ?_
   | refine LeO.bind ?_ (fun _ => ?_)
theorem api_Clause.mono (HF : Nat → ByteArray → List S46 → Bool → List S41 → Int → ByteArray → List S46 → Bool → List S41 → Int → Option Bool) (mHF : ∀ x0 x1 x2 x3 x4 x5 x6 x7 x8 x9 k, LeO (HF k x0 x1 x2 x3 x4 x5 x6 x7 x8 x9) (HF (k + 1) x0 x1 x2 x3 x4 x5 x6 x7 x8 x9)) : ∀ a0 a1 a2 k, LeO (api_Clause.f HF k a0 a1 a2) (api_Clause.f HF (k + 1) a0 a1 a2) := by
 intro a0 a1 a2 k
 have ih0 := api_Clause.mono_l HF mHF k
 unfold api_Clause.f
 repeat' first
   | (with_reducible exact LeO.refl _)
   | exact ih0 _ _ _ _
   | exact mHF _ _ _ _ _ _ _ _ _ _ _
   | exact LeO.none _
   | refine LeO.ite ?_ ?_
   | refine LeO.bind ?_ (fun _ => ?_)
set_option maxHeartbeats 8000000 in
set_option maxRecDepth 100000 in
theorem api_Clause.calls (HF : Nat → ByteArray → List S46 → Bool → List S41 → Int → ByteArray → List S46 → Bool → List S41 → Int → Option Bool) (hHF : ∀ (k : Nat) (a0_0 : ByteArray) (A0_1 : Option Addr) (c0_1 : Nat) (l0_1 : List (S46)) (a0_2 : Bool) (A0_3 : Option Addr) (c0_3 : Nat) (l0_3 : List (S41)) (a0_4 : Int) (a1_0 : ByteArray) (A1_1 : Option Addr) (c1_1 : Nat) (l1_1 : List (S46)) (a1_2 : Bool) (A1_3 : Option Addr) (c1_3 : Nat) (l1_3 : List (S41)) (a1_4 : Int) (r : Bool) (w : World) (hr0_1 : Kd.C k46 w A0_1 l0_1.length l0_1) (hc0_1 : l0_1.length ≤ c0_1) (hr0_3 : Kd.C k41 w A0_3 l0_3.length l0_3) (hc0_3 : l0_3.length ≤ c0_3) (hr1_1 : Kd.C k46 w A1_1 l1_1.length l1_1) (hc1_1 : l1_1.length ≤ c1_1) (hr1_3 : Kd.C k41 w A1_3 l1_3.length l1_3) (hc1_3 : l1_3.length ≤ c1_3) (h : HF k a0_0 l0_1 a0_2 l0_3 a0_4 a1_0 l1_1 a1_2 l1_3 a1_4 = some r), Calls Tryd.prog 58 #[.agg #[.string a0_0, .slice A0_1 l0_1.length c0_1, .bool a0_2, .slice A0_3 l0_3.length c0_3, .int .i64 a0_4], .agg #[.string a1_0, .slice A1_1 l1_1.length c1_1, .bool a1_2, .slice A1_3 l1_3.length c1_3, .int .i64 a1_4]] w fun e w' => e = .returned (.bool r) ∧ Below w.heap.size w w') (k : Nat) (A0 : Option Addr) (c0 : Nat) (l0 : List (S41)) (A1 : Option Addr) (c1 : Nat) (l1 : List (S41)) (a2 : Unit) (r : Bool) (w : World) (hr0 : Kd.C k41 w A0 l0.length l0) (hc0 : l0.length ≤ c0) (hr1 : Kd.C k41 w A1 l1.length l1) (hc1 : l1.length ≤ c1) (h : api_Clause.f HF k l0 l1 a2 = some r) :
  Calls Tryd.prog 57 #[.slice A0 l0.length c0, .slice A1 l1.length c1, .func (.func 58) #[] #[]] w fun e w' => e = .returned (.bool r) ∧ Below w.heap.size w w' := by
 have hu41 := Tryd.underlying41
 have HR0 := Aside0.mk hr0
 have HC0 := Aside0.mk hc0
 clear hr0 hc0
 have HR1 := Aside0.mk hr1
 have HC1 := Aside0.mk hc1
 clear hr1 hc1
 have HB := Aside0.mk (Below.refl w.heap.size w)
 have H : (if (l0.length : Int) = (l1.length : Int) then (api_Clause.l0 HF k l1 l0 (l0.length : Int) 0) else (some false)) = some r := h
 clear h
 by_cases c4 : (l0.length : Int) = (l1.length : Int)
 ·
  rw [if_pos c4] at H
  have c4b0 := beq_iff_eq.mpr c4
  have c4b1 := bne_eq_false_iff_eq.mpr c4
  have c4b2 : (l0.length == l1.length) = true := by first | simpa using c4 | (simp at c4 ⊢; omega)
  clear c4
  have H' := Aside0.mk H
  clear H
  go_enter Tryd.func57, Tryd.ntmps57
  go_wp2
  go_loopg [17] k (fun kq v17 w' => ∃ (x17_1 : Int), v17 = .int .i64 x17_1 ∧ Aside0 (api_Clause.l0 HF kq l1 l0 (l0.length : Int) x17_1 = some r) ∧ Aside0 (kq ≤ k) ∧ Aside0 (Below w.heap.size w w'))
  case atStart => exact ⟨(0), sr_, H', ⟨Nat.le_refl _⟩, ⟨bl_ HB.out⟩⟩
  case round =>
   clear H'
   try clear c1
   try clear p2
   try clear c4
   try clear c4b0
   try clear c4b1
   try clear c4b2
   obtain ⟨x17_1, rfl, HA, HK1, HB⟩ := hrel
   cases gk with
   | zero => exact absurd HA.out (by simp [api_Clause.l0])
   | succ k1 =>
    have H := HA.out
    clear HA
    simp only [api_Clause.l0] at H
    by_cases c5 : x17_1 < (l0.length : Int)
    ·
     rw [if_pos c5] at H
     have c5b0 := decide_eq_true c5
     clear c5
     by_cases c6 : 0 ≤ x17_1
     ·
      rw [if_pos c6] at H
      have c6b0 := decide_eq_true c6
      clear c6
      by_cases c7 : x17_1 < (l0.length : Int)
      ·
       rw [if_pos c7] at H
       have c7b0 := decide_eq_true c7
       clear c7
       by_cases c8 : x17_1 < (l1.length : Int)
       ·
        rw [if_pos c8] at H
        have c8b0 := decide_eq_true c8
        clear c8
        replace H := Option.bind_eq_some_iff.mp H
        obtain ⟨t116, A90, H⟩ := H
        (try dsimp only at H)
        have A9 := Aside0.mk A90
        clear A90
        by_cases c10 : t116 = true
        ·
         subst c10
         have H1 : (api_Clause.l0 HF k1 l1 l0 (l0.length : Int) (wrap64 (x17_1 + 1))) = some r := by rw [if_pos rfl] at H; exact H
         clear H
         have H := H1
         clear H1
         have H' := Aside0.mk H
         clear H
         have p112 : 0 ≤ (x17_1 : Int) := dt_
         have q112 : x17_1 < (l0.length : Int) := dt_
         obtain ⟨ad112, A112_1, c112_1, A112_3, c112_3, e112, hx112_0, hx112_1, hx112_2, hx112_3, hx112_4, hl112_1, hi112_1, hl112_3, hi112_3⟩ := at_T41 HR0.out x17_1 p112 q112
         cases e112
         replace hx112_0 := pw_cell_below HB.out hx112_0
         replace hx112_1 := pw_cell_below HB.out hx112_1
         replace hx112_2 := pw_cell_below HB.out hx112_2
         replace hx112_3 := pw_cell_below HB.out hx112_3
         replace hx112_4 := pw_cell_below HB.out hx112_4
         have HR112_1 := Aside0.mk hi112_1
         have HC112_1 := Aside0.mk hl112_1
         clear hi112_1 hl112_1
         have HR112_3 := Aside0.mk hi112_3
         have HC112_3 := Aside0.mk hl112_3
         clear hi112_3 hl112_3
         replace p112 := eq_true p112
         replace q112 := eq_true q112
         go_wp2_with (first | ((with_reducible refine gate_dst (N := 8) rfl ?_); refine bx_ (N := 8) (cs := #[.string (⟨#[]⟩ : ByteArray), .slice none 0 0, .bool false, .slice none 0 0, .int .i64 0]) (t := 41) ?_; intro gb113 hg w11 hbox hb; refine cut4_ (below_step (bl_ HB.out) hb) (hbox) (bz_ (w := w) hg (bl_ HB.out)) (bz_ (w := w) hg (bl_ HB.out)) ?_; clear HB; intro HB BK113 GW113 GE113; clear hb hbox hg; obtain ⟨hcz12_0, hcz12_1, hcz12_2, hcz12_3, hcz12_4, hfz12_0, hfz12_1, hfz12_2, hfz12_3, hfz12_4⟩ := cq5_ BK113.out; have p114 : 0 ≤ (x17_1 : Int) := dt_; have q114 : x17_1 < (l1.length : Int) := dt_; obtain ⟨ad114, A114_1, c114_1, A114_3, c114_3, e114, hx114_0, hx114_1, hx114_2, hx114_3, hx114_4, hl114_1, hi114_1, hl114_3, hi114_3⟩ := at_T41 HR1.out x17_1 p114 q114; cases e114; have hn114_0 : ad114.block ≠ gb113 := Nat.ne_of_lt (Nat.lt_of_lt_of_le (by have := World.block_lt_of_cell? _ _ hx114_0; first | rwa [add_block] at this | exact this) GW113.out); have hn114_1 : ad114.block ≠ gb113 := Nat.ne_of_lt (Nat.lt_of_lt_of_le (by have := World.block_lt_of_cell? _ _ hx114_0; first | rwa [add_block] at this | exact this) GW113.out); have hn114_2 : ad114.block ≠ gb113 := Nat.ne_of_lt (Nat.lt_of_lt_of_le (by have := World.block_lt_of_cell? _ _ hx114_0; first | rwa [add_block] at this | exact this) GW113.out); have hn114_3 : ad114.block ≠ gb113 := Nat.ne_of_lt (Nat.lt_of_lt_of_le (by have := World.block_lt_of_cell? _ _ hx114_0; first | rwa [add_block] at this | exact this) GW113.out); have hn114_4 : ad114.block ≠ gb113 := Nat.ne_of_lt (Nat.lt_of_lt_of_le (by have := World.block_lt_of_cell? _ _ hx114_0; first | rwa [add_block] at this | exact this) GW113.out); replace hx114_0 := pw_cell_below HB.out hx114_0; replace hx114_1 := pw_cell_below HB.out hx114_1; replace hx114_2 := pw_cell_below HB.out hx114_2; replace hx114_3 := pw_cell_below HB.out hx114_3; replace hx114_4 := pw_cell_below HB.out hx114_4; have HR114_1 := Aside0.mk hi114_1; have HC114_1 := Aside0.mk hl114_1; clear hi114_1 hl114_1; have HR114_3 := Aside0.mk hi114_3; have HC114_3 := Aside0.mk hl114_3; clear hi114_3 hl114_3; replace hx114_0 := cx_ gb113 0 (.string ((rd_T41 l0 x17_1).f0)) hn114_0 hx114_0; replace hx114_1 := cx_ gb113 0 (.string ((rd_T41 l0 x17_1).f0)) hn114_0 hx114_1; replace hx114_2 := cx_ gb113 0 (.string ((rd_T41 l0 x17_1).f0)) hn114_0 hx114_2; replace hx114_3 := cx_ gb113 0 (.string ((rd_T41 l0 x17_1).f0)) hn114_0 hx114_3; replace hx114_4 := cx_ gb113 0 (.string ((rd_T41 l0 x17_1).f0)) hn114_0 hx114_4; replace hx114_0 := cx_ gb113 1 (.slice A112_1 ((rd_T41 l0 x17_1).f1).length c112_1) hn114_1 hx114_0; replace hx114_1 := cx_ gb113 1 (.slice A112_1 ((rd_T41 l0 x17_1).f1).length c112_1) hn114_1 hx114_1; replace hx114_2 := cx_ gb113 1 (.slice A112_1 ((rd_T41 l0 x17_1).f1).length c112_1) hn114_1 hx114_2; replace hx114_3 := cx_ gb113 1 (.slice A112_1 ((rd_T41 l0 x17_1).f1).length c112_1) hn114_1 hx114_3; replace hx114_4 := cx_ gb113 1 (.slice A112_1 ((rd_T41 l0 x17_1).f1).length c112_1) hn114_1 hx114_4; replace hx114_0 := cx_ gb113 2 (.bool ((rd_T41 l0 x17_1).f2)) hn114_2 hx114_0; replace hx114_1 := cx_ gb113 2 (.bool ((rd_T41 l0 x17_1).f2)) hn114_2 hx114_1; replace hx114_2 := cx_ gb113 2 (.bool ((rd_T41 l0 x17_1).f2)) hn114_2 hx114_2; replace hx114_3 := cx_ gb113 2 (.bool ((rd_T41 l0 x17_1).f2)) hn114_2 hx114_3; replace hx114_4 := cx_ gb113 2 (.bool ((rd_T41 l0 x17_1).f2)) hn114_2 hx114_4; replace hx114_0 := cx_ gb113 3 (.slice A112_3 ((rd_T41 l0 x17_1).f3).length c112_3) hn114_3 hx114_0; replace hx114_1 := cx_ gb113 3 (.slice A112_3 ((rd_T41 l0 x17_1).f3).length c112_3) hn114_3 hx114_1; replace hx114_2 := cx_ gb113 3 (.slice A112_3 ((rd_T41 l0 x17_1).f3).length c112_3) hn114_3 hx114_2; replace hx114_3 := cx_ gb113 3 (.slice A112_3 ((rd_T41 l0 x17_1).f3).length c112_3) hn114_3 hx114_3; replace hx114_4 := cx_ gb113 3 (.slice A112_3 ((rd_T41 l0 x17_1).f3).length c112_3) hn114_3 hx114_4; replace hx114_0 := cx_ gb113 4 (.int .i64 ((rd_T41 l0 x17_1).f4)) hn114_4 hx114_0; replace hx114_1 := cx_ gb113 4 (.int .i64 ((rd_T41 l0 x17_1).f4)) hn114_4 hx114_1; replace hx114_2 := cx_ gb113 4 (.int .i64 ((rd_T41 l0 x17_1).f4)) hn114_4 hx114_2; replace hx114_3 := cx_ gb113 4 (.int .i64 ((rd_T41 l0 x17_1).f4)) hn114_4 hx114_3; replace hx114_4 := cx_ gb113 4 (.int .i64 ((rd_T41 l0 x17_1).f4)) hn114_4 hx114_4; clear hn114_0; clear hn114_1; clear hn114_2; clear hn114_3; clear hn114_4; replace p114 := eq_true p114; replace q114 := eq_true q114) | ((with_reducible refine gate_dst (N := 9) rfl ?_); refine bx_ (N := 9) (cs := #[.string (⟨#[]⟩ : ByteArray), .slice none 0 0, .bool false, .slice none 0 0, .int .i64 0]) (t := 41) ?_; intro gb115 hg w13 hbox hb; refine cut7_ (blk_below (g := gb113) (o := .cells #[.string ((rd_T41 l0 x17_1).f0), .slice A112_1 ((rd_T41 l0 x17_1).f1).length c112_1, .bool ((rd_T41 l0 x17_1).f2), .slice A112_3 ((rd_T41 l0 x17_1).f3).length c112_3, .int .i64 ((rd_T41 l0 x17_1).f4)] 41 (0, 0)) (put5_ (bk_ BK113.out)) hb) (below_step (bl1_ HB.out GE113.out) hb) (hbox) (bz_ (w := w) hg (bl1_ HB.out GE113.out)) (bz_ (w := w) hg (bl1_ HB.out GE113.out)) ((by rw [hg]; exact Nat.ne_of_lt (blk_lt (g := gb113) (o := .cells #[.string ((rd_T41 l0 x17_1).f0), .slice A112_1 ((rd_T41 l0 x17_1).f1).length c112_1, .bool ((rd_T41 l0 x17_1).f2), .slice A112_3 ((rd_T41 l0 x17_1).f3).length c112_3, .int .i64 ((rd_T41 l0 x17_1).f4)] 41 (0, 0)) (by exact put5_ (bk_ BK113.out))) : gb113 ≠ gb115)) ((by rw [hg]; exact Nat.ne_of_gt (blk_lt (g := gb113) (o := .cells #[.string ((rd_T41 l0 x17_1).f0), .slice A112_1 ((rd_T41 l0 x17_1).f1).length c112_1, .bool ((rd_T41 l0 x17_1).f2), .slice A112_3 ((rd_T41 l0 x17_1).f3).length c112_3, .int .i64 ((rd_T41 l0 x17_1).f4)] 41 (0, 0)) (by exact put5_ (bk_ BK113.out))) : gb115 ≠ gb113)) ?_; clear BK113 HB; intro BK113 HB BK115 GW115 GE115 NB113_115 NB115_113; clear hb hbox hg; have hnb14 := NB115_113.out; have hnc14 := NB113_115.out; obtain ⟨hcz15_0, hcz15_1, hcz15_2, hcz15_3, hcz15_4, hfz15_0, hfz15_1, hfz15_2, hfz15_3, hfz15_4⟩ := cq5_ BK115.out; obtain ⟨hcz16_0, hcz16_1, hcz16_2, hcz16_3, hcz16_4, hfz16_0, hfz16_1, hfz16_2, hfz16_3, hfz16_4⟩ := cq5_ BK113.out) | ((with_reducible refine (hHF k1 ((rd_T41 l0 x17_1).f0) _ _ ((rd_T41 l0 x17_1).f1) ((rd_T41 l0 x17_1).f2) _ _ ((rd_T41 l0 x17_1).f3) ((rd_T41 l0 x17_1).f4) ((rd_T41 l1 x17_1).f0) _ _ ((rd_T41 l1 x17_1).f1) ((rd_T41 l1 x17_1).f2) _ _ ((rd_T41 l1 x17_1).f3) ((rd_T41 l1 x17_1).f4) true _ ?side1 ?side2 ?side3 ?side4 ?side5 ?side6 ?side7 ?side8 A9.out).mono ?_); (case side1 => exact Kd.C_below HR112_1.out (bl2_ HB.out GE113.out GE115.out)); (case side2 => exact HC112_1.out); (case side3 => exact Kd.C_below HR112_3.out (bl2_ HB.out GE113.out GE115.out)); (case side4 => exact HC112_3.out); (case side5 => exact Kd.C_below HR114_1.out (bl2_ HB.out GE113.out GE115.out)); (case side6 => exact HC114_1.out); (case side7 => exact Kd.C_below HR114_3.out (bl2_ HB.out GE113.out GE115.out)); (case side8 => exact HC114_3.out); rintro e w17 ⟨rfl, hb⟩; refine cut3_ (blk_below (g := gb113) (o := .cells #[.string ((rd_T41 l0 x17_1).f0), .slice A112_1 ((rd_T41 l0 x17_1).f1).length c112_1, .bool ((rd_T41 l0 x17_1).f2), .slice A112_3 ((rd_T41 l0 x17_1).f3).length c112_3, .int .i64 ((rd_T41 l0 x17_1).f4)] 41 (0, 0)) (far5_ (bk_ BK113.out) NB113_115.out) hb) (blk_below (g := gb115) (o := .cells #[.string ((rd_T41 l1 x17_1).f0), .slice A114_1 ((rd_T41 l1 x17_1).f1).length c114_1, .bool ((rd_T41 l1 x17_1).f2), .slice A114_3 ((rd_T41 l1 x17_1).f3).length c114_3, .int .i64 ((rd_T41 l1 x17_1).f4)] 41 (0, 0)) (put5_ (bk_ BK115.out)) hb) (below_step (bl2_ HB.out GE113.out GE115.out) hb) ?_; clear BK113 BK115 HB; intro BK113 BK115 HB; (try clear hb); (try clear hb2); (try clear hk); (try clear hi)))
         go_roundg k1
         case measure => have := HK1.out; omega
         case rel => exact ⟨(wrap64 (x17_1 + 1)), sr_, H', ⟨by have := HK1.out; omega⟩, ⟨bl2_ HB.out GE113.out GE115.out⟩⟩
        ·
         replace c10 := Bool.eq_false_iff.mpr c10
         subst c10
         have H1 : (some false) = some r := by rw [if_neg (show ¬ (false = true) by decide)] at H; exact H
         clear H
         have H := H1
         clear H1
         obtain rfl := Option.some.inj H
         have p112 : 0 ≤ (x17_1 : Int) := dt_
         have q112 : x17_1 < (l0.length : Int) := dt_
         obtain ⟨ad112, A112_1, c112_1, A112_3, c112_3, e112, hx112_0, hx112_1, hx112_2, hx112_3, hx112_4, hl112_1, hi112_1, hl112_3, hi112_3⟩ := at_T41 HR0.out x17_1 p112 q112
         cases e112
         replace hx112_0 := pw_cell_below HB.out hx112_0
         replace hx112_1 := pw_cell_below HB.out hx112_1
         replace hx112_2 := pw_cell_below HB.out hx112_2
         replace hx112_3 := pw_cell_below HB.out hx112_3
         replace hx112_4 := pw_cell_below HB.out hx112_4
         have HR112_1 := Aside0.mk hi112_1
         have HC112_1 := Aside0.mk hl112_1
         clear hi112_1 hl112_1
         have HR112_3 := Aside0.mk hi112_3
         have HC112_3 := Aside0.mk hl112_3
         clear hi112_3 hl112_3
         replace p112 := eq_true p112
         replace q112 := eq_true q112
         go_wp2_with (first | ((with_reducible refine gate_dst (N := 8) rfl ?_); refine bx_ (N := 8) (cs := #[.string (⟨#[]⟩ : ByteArray), .slice none 0 0, .bool false, .slice none 0 0, .int .i64 0]) (t := 41) ?_; intro gb113 hg w18 hbox hb; refine cut4_ (below_step (bl_ HB.out) hb) (hbox) (bz_ (w := w) hg (bl_ HB.out)) (bz_ (w := w) hg (bl_ HB.out)) ?_; clear HB; intro HB BK113 GW113 GE113; clear hb hbox hg; obtain ⟨hcz19_0, hcz19_1, hcz19_2, hcz19_3, hcz19_4, hfz19_0, hfz19_1, hfz19_2, hfz19_3, hfz19_4⟩ := cq5_ BK113.out; have p114 : 0 ≤ (x17_1 : Int) := dt_; have q114 : x17_1 < (l1.length : Int) := dt_; obtain ⟨ad114, A114_1, c114_1, A114_3, c114_3, e114, hx114_0, hx114_1, hx114_2, hx114_3, hx114_4, hl114_1, hi114_1, hl114_3, hi114_3⟩ := at_T41 HR1.out x17_1 p114 q114; cases e114; have hn114_0 : ad114.block ≠ gb113 := Nat.ne_of_lt (Nat.lt_of_lt_of_le (by have := World.block_lt_of_cell? _ _ hx114_0; first | rwa [add_block] at this | exact this) GW113.out); have hn114_1 : ad114.block ≠ gb113 := Nat.ne_of_lt (Nat.lt_of_lt_of_le (by have := World.block_lt_of_cell? _ _ hx114_0; first | rwa [add_block] at this | exact this) GW113.out); have hn114_2 : ad114.block ≠ gb113 := Nat.ne_of_lt (Nat.lt_of_lt_of_le (by have := World.block_lt_of_cell? _ _ hx114_0; first | rwa [add_block] at this | exact this) GW113.out); have hn114_3 : ad114.block ≠ gb113 := Nat.ne_of_lt (Nat.lt_of_lt_of_le (by have := World.block_lt_of_cell? _ _ hx114_0; first | rwa [add_block] at this | exact this) GW113.out); have hn114_4 : ad114.block ≠ gb113 := Nat.ne_of_lt (Nat.lt_of_lt_of_le (by have := World.block_lt_of_cell? _ _ hx114_0; first | rwa [add_block] at this | exact this) GW113.out); replace hx114_0 := pw_cell_below HB.out hx114_0; replace hx114_1 := pw_cell_below HB.out hx114_1; replace hx114_2 := pw_cell_below HB.out hx114_2; replace hx114_3 := pw_cell_below HB.out hx114_3; replace hx114_4 := pw_cell_below HB.out hx114_4; have HR114_1 := Aside0.mk hi114_1; have HC114_1 := Aside0.mk hl114_1; clear hi114_1 hl114_1; have HR114_3 := Aside0.mk hi114_3; have HC114_3 := Aside0.mk hl114_3; clear hi114_3 hl114_3; replace hx114_0 := cx_ gb113 0 (.string ((rd_T41 l0 x17_1).f0)) hn114_0 hx114_0; replace hx114_1 := cx_ gb113 0 (.string ((rd_T41 l0 x17_1).f0)) hn114_0 hx114_1; replace hx114_2 := cx_ gb113 0 (.string ((rd_T41 l0 x17_1).f0)) hn114_0 hx114_2; replace hx114_3 := cx_ gb113 0 (.string ((rd_T41 l0 x17_1).f0)) hn114_0 hx114_3; replace hx114_4 := cx_ gb113 0 (.string ((rd_T41 l0 x17_1).f0)) hn114_0 hx114_4; replace hx114_0 := cx_ gb113 1 (.slice A112_1 ((rd_T41 l0 x17_1).f1).length c112_1) hn114_1 hx114_0; replace hx114_1 := cx_ gb113 1 (.slice A112_1 ((rd_T41 l0 x17_1).f1).length c112_1) hn114_1 hx114_1; replace hx114_2 := cx_ gb113 1 (.slice A112_1 ((rd_T41 l0 x17_1).f1).length c112_1) hn114_1 hx114_2; replace hx114_3 := cx_ gb113 1 (.slice A112_1 ((rd_T41 l0 x17_1).f1).length c112_1) hn114_1 hx114_3; replace hx114_4 := cx_ gb113 1 (.slice A112_1 ((rd_T41 l0 x17_1).f1).length c112_1) hn114_1 hx114_4; replace hx114_0 := cx_ gb113 2 (.bool ((rd_T41 l0 x17_1).f2)) hn114_2 hx114_0; replace hx114_1 := cx_ gb113 2 (.bool ((rd_T41 l0 x17_1).f2)) hn114_2 hx114_1; replace hx114_2 := cx_ gb113 2 (.bool ((rd_T41 l0 x17_1).f2)) hn114_2 hx114_2; replace hx114_3 := cx_ gb113 2 (.bool ((rd_T41 l0 x17_1).f2)) hn114_2 hx114_3; replace hx114_4 := cx_ gb113 2 (.bool ((rd_T41 l0 x17_1).f2)) hn114_2 hx114_4; replace hx114_0 := cx_ gb113 3 (.slice A112_3 ((rd_T41 l0 x17_1).f3).length c112_3) hn114_3 hx114_0; replace hx114_1 := cx_ gb113 3 (.slice A112_3 ((rd_T41 l0 x17_1).f3).length c112_3) hn114_3 hx114_1; replace hx114_2 := cx_ gb113 3 (.slice A112_3 ((rd_T41 l0 x17_1).f3).length c112_3) hn114_3 hx114_2; replace hx114_3 := cx_ gb113 3 (.slice A112_3 ((rd_T41 l0 x17_1).f3).length c112_3) hn114_3 hx114_3; replace hx114_4 := cx_ gb113 3 (.slice A112_3 ((rd_T41 l0 x17_1).f3).length c112_3) hn114_3 hx114_4; replace hx114_0 := cx_ gb113 4 (.int .i64 ((rd_T41 l0 x17_1).f4)) hn114_4 hx114_0; replace hx114_1 := cx_ gb113 4 (.int .i64 ((rd_T41 l0 x17_1).f4)) hn114_4 hx114_1; replace hx114_2 := cx_ gb113 4 (.int .i64 ((rd_T41 l0 x17_1).f4)) hn114_4 hx114_2; replace hx114_3 := cx_ gb113 4 (.int .i64 ((rd_T41 l0 x17_1).f4)) hn114_4 hx114_3; replace hx114_4 := cx_ gb113 4 (.int .i64 ((rd_T41 l0 x17_1).f4)) hn114_4 hx114_4; clear hn114_0; clear hn114_1; clear hn114_2; clear hn114_3; clear hn114_4; replace p114 := eq_true p114; replace q114 := eq_true q114) | ((with_reducible refine gate_dst (N := 9) rfl ?_); refine bx_ (N := 9) (cs := #[.string (⟨#[]⟩ : ByteArray), .slice none 0 0, .bool false, .slice none 0 0, .int .i64 0]) (t := 41) ?_; intro gb115 hg w20 hbox hb; refine cut7_ (blk_below (g := gb113) (o := .cells #[.string ((rd_T41 l0 x17_1).f0), .slice A112_1 ((rd_T41 l0 x17_1).f1).length c112_1, .bool ((rd_T41 l0 x17_1).f2), .slice A112_3 ((rd_T41 l0 x17_1).f3).length c112_3, .int .i64 ((rd_T41 l0 x17_1).f4)] 41 (0, 0)) (put5_ (bk_ BK113.out)) hb) (below_step (bl1_ HB.out GE113.out) hb) (hbox) (bz_ (w := w) hg (bl1_ HB.out GE113.out)) (bz_ (w := w) hg (bl1_ HB.out GE113.out)) ((by rw [hg]; exact Nat.ne_of_lt (blk_lt (g := gb113) (o := .cells #[.string ((rd_T41 l0 x17_1).f0), .slice A112_1 ((rd_T41 l0 x17_1).f1).length c112_1, .bool ((rd_T41 l0 x17_1).f2), .slice A112_3 ((rd_T41 l0 x17_1).f3).length c112_3, .int .i64 ((rd_T41 l0 x17_1).f4)] 41 (0, 0)) (by exact put5_ (bk_ BK113.out))) : gb113 ≠ gb115)) ((by rw [hg]; exact Nat.ne_of_gt (blk_lt (g := gb113) (o := .cells #[.string ((rd_T41 l0 x17_1).f0), .slice A112_1 ((rd_T41 l0 x17_1).f1).length c112_1, .bool ((rd_T41 l0 x17_1).f2), .slice A112_3 ((rd_T41 l0 x17_1).f3).length c112_3, .int .i64 ((rd_T41 l0 x17_1).f4)] 41 (0, 0)) (by exact put5_ (bk_ BK113.out))) : gb115 ≠ gb113)) ?_; clear BK113 HB; intro BK113 HB BK115 GW115 GE115 NB113_115 NB115_113; clear hb hbox hg; have hnb21 := NB115_113.out; have hnc21 := NB113_115.out; obtain ⟨hcz22_0, hcz22_1, hcz22_2, hcz22_3, hcz22_4, hfz22_0, hfz22_1, hfz22_2, hfz22_3, hfz22_4⟩ := cq5_ BK115.out; obtain ⟨hcz23_0, hcz23_1, hcz23_2, hcz23_3, hcz23_4, hfz23_0, hfz23_1, hfz23_2, hfz23_3, hfz23_4⟩ := cq5_ BK113.out) | ((with_reducible refine (hHF k1 ((rd_T41 l0 x17_1).f0) _ _ ((rd_T41 l0 x17_1).f1) ((rd_T41 l0 x17_1).f2) _ _ ((rd_T41 l0 x17_1).f3) ((rd_T41 l0 x17_1).f4) ((rd_T41 l1 x17_1).f0) _ _ ((rd_T41 l1 x17_1).f1) ((rd_T41 l1 x17_1).f2) _ _ ((rd_T41 l1 x17_1).f3) ((rd_T41 l1 x17_1).f4) false _ ?side1 ?side2 ?side3 ?side4 ?side5 ?side6 ?side7 ?side8 A9.out).mono ?_); (case side1 => exact Kd.C_below HR112_1.out (bl2_ HB.out GE113.out GE115.out)); (case side2 => exact HC112_1.out); (case side3 => exact Kd.C_below HR112_3.out (bl2_ HB.out GE113.out GE115.out)); (case side4 => exact HC112_3.out); (case side5 => exact Kd.C_below HR114_1.out (bl2_ HB.out GE113.out GE115.out)); (case side6 => exact HC114_1.out); (case side7 => exact Kd.C_below HR114_3.out (bl2_ HB.out GE113.out GE115.out)); (case side8 => exact HC114_3.out); rintro e w24 ⟨rfl, hb⟩; refine cut3_ (blk_below (g := gb113) (o := .cells #[.string ((rd_T41 l0 x17_1).f0), .slice A112_1 ((rd_T41 l0 x17_1).f1).length c112_1, .bool ((rd_T41 l0 x17_1).f2), .slice A112_3 ((rd_T41 l0 x17_1).f3).length c112_3, .int .i64 ((rd_T41 l0 x17_1).f4)] 41 (0, 0)) (far5_ (bk_ BK113.out) NB113_115.out) hb) (blk_below (g := gb115) (o := .cells #[.string ((rd_T41 l1 x17_1).f0), .slice A114_1 ((rd_T41 l1 x17_1).f1).length c114_1, .bool ((rd_T41 l1 x17_1).f2), .slice A114_3 ((rd_T41 l1 x17_1).f3).length c114_3, .int .i64 ((rd_T41 l1 x17_1).f4)] 41 (0, 0)) (put5_ (bk_ BK115.out)) hb) (below_step (bl2_ HB.out GE113.out GE115.out) hb) ?_; clear BK113 BK115 HB; intro BK113 BK115 HB; (try clear hb); (try clear hb2); (try clear hk); (try clear hi)))
         go_ret
         exact ⟨er_, bl2_ HB.out GE113.out GE115.out⟩
       ·
        rw [if_neg c8] at H
        exact absurd H (by simp)
      ·
       rw [if_neg c7] at H
       exact absurd H (by simp)
     ·
      rw [if_neg c6] at H
      exact absurd H (by simp)
    ·
     rw [if_neg c5] at H
     have c5b0 := decide_eq_false c5
     clear c5
     obtain rfl := Option.some.inj H
     go_wp2
     go_ret
     exact ⟨er_, bl_ HB.out⟩
 ·
  rw [if_neg c4] at H
  have c4b0 := beq_eq_false_iff_ne.mpr c4
  have c4b1 := bne_iff_ne.mpr c4
  have c4b2 : (l0.length == l1.length) = false := by first | simpa using c4 | (simp at c4 ⊢; omega)
  obtain rfl := Option.some.inj H
  go_enter Tryd.func57, Tryd.ntmps57
  go_wp2
  go_ret
  exact ⟨er_, bl_ HB.out⟩
end Go.Proofs.YtkifdadhojbohaaDoor.Pr
namespace Go.Proofs.YtkifdadhojbohaaDoor.Pr
open Go.Proofs.YtkifdadhojbohaaDoor
open Go.RowKit Go.Proofs.YtkifdadhojbohaaDoorW.PrintWords Go.Proofs.YtkifdadhojbohaaDoorW.PrintLast Go.Proofs.YtkifdadhojbohaaDoorW.PrintMore
/-- slices.EqualFunc of clauses, where Same is SF. -/
def eqfS (SF : Nat → List S41 → List S41 → Option Bool) (j : Nat) (a b : List S41) (u : Unit) : Option Bool := api_Clause.f (fun i x0 x1 x2 x3 x4 x5 x6 x7 x8 x9 => parser_Same_1.f SF i x0 x1 x2 x3 x4 x5 x6 x7 x8 x9) j a b u
/-- Same, with calls up to the depth d. -/
def samT : Nat → (Nat → List S41 → List S41 → Option Bool)
 | 0 => fun _ _ _ => none
 | d + 1 => fun k a b => parser_Same.f (eqfS (samT d)) k a b
theorem samT_calls : ∀ (d : Nat) (k : Nat) (A0 : Option Addr) (c0 : Nat) (l0 : List (S41)) (A1 : Option Addr) (c1 : Nat) (l1 : List (S41)) (r : Bool) (w : World) (_ : Kd.C k41 w A0 l0.length l0) (_ : l0.length ≤ c0) (_ : Kd.C k41 w A1 l1.length l1) (_ : l1.length ≤ c1) (_ : samT d k l0 l1 = some r),
  Calls Tryd.prog 29 #[.slice A0 l0.length c0, .slice A1 l1.length c1] w fun e w' => e = .returned (.bool r) ∧ Below w.heap.size w w' := by
 intro d
 induction d with
 | zero => intro k A0 c0 l0 A1 c1 l1 r w _ _ _ _ h; cases h
 | succ d ih =>
  intro k A0 c0 l0 A1 c1 l1 r w h1 h2 h3 h4 h
  exact parser_Same.calls _ (fun k A0 c0 l0 A1 c1 l1 a2 r w h1 h2 h3 h4 h => api_Clause.calls _ (fun k a0_0 A0_1 c0_1 l0_1 a0_2 A0_3 c0_3 l0_3 a0_4 a1_0 A1_1 c1_1 l1_1 a1_2 A1_3 c1_3 l1_3 a1_4 r w g1 g2 g3 g4 g5 g6 g7 g8 g => parser_Same_1.calls (samT d) ih k a0_0 A0_1 c0_1 l0_1 a0_2 A0_3 c0_3 l0_3 a0_4 a1_0 A1_1 c1_1 l1_1 a1_2 A1_3 c1_3 l1_3 a1_4 r w g1 g2 g3 g4 g5 g6 g7 g8 g) k A0 c0 l0 A1 c1 l1 a2 r w h1 h2 h3 h4 h) k A0 c0 l0 A1 c1 l1 r w h1 h2 h3 h4 h
theorem same1_leF (QF QG : Nat → List S41 → List S41 → Option Bool) (h : ∀ k a b, LeO (QF k a b) (QG k a b)) (k : Nat) (x0 : ByteArray) (x1 : List S46) (x2 : Bool) (x3 : List S41) (x4 : Int) (x5 : ByteArray) (x6 : List S46) (x7 : Bool) (x8 : List S41) (x9 : Int) :
  LeO (parser_Same_1.f QF k x0 x1 x2 x3 x4 x5 x6 x7 x8 x9) (parser_Same_1.f QG k x0 x1 x2 x3 x4 x5 x6 x7 x8 x9) := by
 unfold parser_Same_1.f
 repeat' first
  | exact h _ _ _
  | exact LeO.refl _
  | exact LeO.none _
  | refine LeO.ite ?_ ?_
  | refine LeO.bind ?_ (fun _ => ?_)
theorem clause_le (RF RG : Nat → ByteArray → List S46 → Bool → List S41 → Int → ByteArray → List S46 → Bool → List S41 → Int → Option Bool) (h : ∀ k x0 x1 x2 x3 x4 x5 x6 x7 x8 x9, LeO (RF k x0 x1 x2 x3 x4 x5 x6 x7 x8 x9) (RG k x0 x1 x2 x3 x4 x5 x6 x7 x8 x9)) : ∀ k y0 y1 y2 y3, LeO (api_Clause.l0 RF k y0 y1 y2 y3) (api_Clause.l0 RG k y0 y1 y2 y3)
 | 0 => fun _ _ _ _ r h => by simp [api_Clause.l0] at h
 | k + 1 => by
  have ih := clause_le RF RG h k
  intro y0 y1 y2 y3
  simp only [api_Clause.l0]
  repeat' first
   | exact h _ _ _ _ _ _ _ _ _ _ _
   | exact ih _ _ _ _
   | exact LeO.refl _
   | exact LeO.none _
   | refine LeO.ite ?_ ?_
   | refine LeO.bind ?_ (fun _ => ?_)
theorem eqfS_le (QF QG : Nat → List S41 → List S41 → Option Bool) (h : ∀ k a b, LeO (QF k a b) (QG k a b)) (k : Nat) (a b : List S41) (u : Unit) : LeO (eqfS QF k a b u) (eqfS QG k a b u) := by
 unfold eqfS api_Clause.f
 repeat' first
  | exact clause_le _ _ (fun k x0 x1 x2 x3 x4 x5 x6 x7 x8 x9 => same1_leF QF QG h k x0 x1 x2 x3 x4 x5 x6 x7 x8 x9) k _ _ _ _
  | exact LeO.refl _
  | exact LeO.none _
  | refine LeO.ite ?_ ?_
theorem samT_deep : ∀ (d k : Nat) (a b : List S41), LeO (samT d k a b) (samT (d + 1) k a b)
 | 0, k, a, b => fun r h => by cases h
 | d + 1, k, a, b => LeO.bind (eqfS_le (samT d) (samT (d + 1)) (fun k a b => samT_deep d k a b) k a b ()) (fun _ => LeO.refl _)
theorem samT_mono : ∀ (d : Nat) (a b : List S41) (k : Nat), LeO (samT d k a b) (samT d (k + 1) a b)
 | 0, a, b, k => fun r h => by cases h
 | d + 1, a, b, k => parser_Same.mono _ (fun a b u k => api_Clause.mono _ (fun x0 x1 x2 x3 x4 x5 x6 x7 x8 x9 k => parser_Same_1.mono (samT d) (fun a b k => samT_mono d a b k) x0 x1 x2 x3 x4 x5 x6 x7 x8 x9 k) a b u k) a b k
/-- The parser's Same. -/
def pSame.f (k : Nat) (a b : List S41) : Option Bool := samT k k a b
theorem pSame.mono : ∀ a b k, LeO (pSame.f k a b) (pSame.f (k + 1) a b) := fun a b k r h => samT_deep k (k + 1) a b r (samT_mono k a b k r h)
theorem pSame.calls (k : Nat) (A0 : Option Addr) (c0 : Nat) (l0 : List (S41)) (A1 : Option Addr) (c1 : Nat) (l1 : List (S41)) (r : Bool) (w : World) (hr0 : Kd.C k41 w A0 l0.length l0) (hc0 : l0.length ≤ c0) (hr1 : Kd.C k41 w A1 l1.length l1) (hc1 : l1.length ≤ c1) (h : pSame.f k l0 l1 = some r) :
  Calls Tryd.prog 29 #[.slice A0 l0.length c0, .slice A1 l1.length c1] w fun e w' => e = .returned (.bool r) ∧ Below w.heap.size w w' := samT_calls k k A0 c0 l0 A1 c1 l1 r w hr0 hc0 hr1 hc1 h
end Go.Proofs.YtkifdadhojbohaaDoor.Pr
namespace Go.Proofs.YtkifdadhojbohaaDoor.Pu
open Go.RowKit Go.Proofs.YtkifdadhojbohaaDoor Go.Proofs.YtkifdadhojbohaaDoor.Pr Go.Proofs.YtkifdadhojbohaaDoorW.PrintWords Go.Proofs.YtkifdadhojbohaaDoorW.PrintLast Go.Proofs.YtkifdadhojbohaaDoorW.PrintMore
/-- A token, without its offset if p is false. -/
def keyT (p : Bool) (t : S46) : S46 := ⟨t.f0, t.f1, t.f2, if p = true then t.f3 else 0⟩
inductive SmL (p : Bool) : List S41 → List S41 → Prop
  | nil : SmL p [] []
  | cons (c d : S41) (a b : List S41) : c.f0 = d.f0 → c.f2 = d.f2 → c.f1.map (keyT p) = d.f1.map (keyT p) → (p = true → c.f4 = d.f4) → c.f1.length ≤ 1000000 → a.length < 1000000 → SmL p c.f3 d.f3 → SmL p a b → SmL p (c :: a) (d :: b)
theorem SmL.length {p : Bool} {a b : List S41} (h : SmL p a b) : a.length = b.length ∧ a.length ≤ 1000000 := by
  induction h with
  | nil => simp
  | cons c d a b _ _ _ _ _ hl _ _ _ ih => simp; omega
theorem rd41_at {T : List S41} {i : Nat} {t : S41} {r : List S41} (h : T.drop i = t :: r) : i < T.length ∧ rd_T41 T (i : Int) = t ∧ T.drop (i + 1) = r := by
  have hi : i < T.length := by
    apply Classical.byContradiction
    intro hn
    rw [List.drop_eq_nil_of_le (by omega)] at h
    cases h
  refine ⟨hi, ?_, ?_⟩
  · have := congrArg (·[0]?) h
    simp only [List.getElem?_drop, Nat.add_zero, List.getElem?_cons_zero] at this
    simp [rd_T41, List.getD_eq_getElem?_getD, this]
  · rw [← List.drop_drop, h]; rfl
end Go.Proofs.YtkifdadhojbohaaDoor.Pu
namespace Go.Proofs.YtkifdadhojbohaaDoor.Pu
open Go.RowKit Go.Proofs.YtkifdadhojbohaaDoor Go.Proofs.YtkifdadhojbohaaDoor.Pr Go.Proofs.YtkifdadhojbohaaDoorW.PrintWords Go.Proofs.YtkifdadhojbohaaDoorW.PrintLast
theorem kind1 (n : Nat) : kindOf n = 1 ↔ n = 32 ∨ n = 9 ∨ n = 10 ∨ n = 13 := by
  unfold kindOf
  constructor
  · intro h; (repeat' split at h) <;> omega
  · intro h; rw [if_pos h]
theorem kind2 (n : Nat) : kindOf n = 2 ↔ 97 ≤ n ∧ n ≤ 122 ∨ 65 ≤ n ∧ n ≤ 90 ∨ n = 95 := by
  unfold kindOf
  constructor
  · intro h; (repeat' split at h) <;> omega
  · intro h; rw [if_neg (by omega), if_pos h]
theorem kind3 (n : Nat) : kindOf n = 3 ↔ 48 ≤ n ∧ n ≤ 57 := by
  unfold kindOf
  constructor
  · intro h; (repeat' split at h) <;> omega
  · intro h; rw [if_neg (by omega), if_neg (by omega), if_pos h]
theorem kind4 (n : Nat) : kindOf n = 4 ↔ n = 46 := by
  unfold kindOf
  constructor
  · intro h; (repeat' split at h) <;> omega
  · intro h; subst h; decide
theorem kind5 (n : Nat) : kindOf n = 5 ↔ n = 40 ∨ n = 41 ∨ n = 43 ∨ n = 45 ∨ n = 42 ∨ n = 47 ∨ n = 44 ∨ n = 61 ∨ n = 59 ∨ n = 123 ∨ n = 125 := by
  unfold kindOf
  constructor
  · intro h; (repeat' split at h) <;> omega
  · intro h; rw [if_neg (by omega), if_neg (by omega), if_neg (by omega), if_neg (by omega), if_pos h]
theorem let_num (t : List UInt8) (h : t.any isLet = true) : (numL t).2 = 2 := by
  have hd : (t.take (t.findIdx (· == 46)) ++ t.drop (t.findIdx (· == 46) + 1)).all isDig = false := by
    rw [List.any_eq_true] at h
    obtain ⟨c, hc, hl⟩ := h
    have h2 : kindOf c.toNat = 2 := by
      simp only [isLet, Bool.and_eq_true, beq_iff_eq] at hl; exact hl.1
    have hdc : isDig c = false := by simp [isDig, h2]
    have hin : c ∈ t.take (t.findIdx (· == 46)) ++ t.drop (t.findIdx (· == 46) + 1) := by
      rw [List.mem_iff_getElem] at hc
      obtain ⟨j, hj, rfl⟩ := hc
      rw [List.mem_append]
      by_cases a : j < t.findIdx (· == 46)
      · left
        rw [List.mem_iff_getElem]
        exact ⟨j, by rw [List.length_take]; omega, by rw [List.getElem_take]⟩
      · by_cases b : j = t.findIdx (· == 46)
        · exfalso
          have hx := List.findIdx_getElem (xs := t) (p := (· == 46)) (w := by rw [← b]; exact hj)
          simp only [← b] at hx
          rw [beq_iff_eq] at hx
          rw [hx] at h2
          exact absurd h2 (by decide)
        · right
          rw [List.mem_iff_getElem]
          refine ⟨j - (t.findIdx (· == 46) + 1), by rw [List.length_drop]; omega, ?_⟩
          rw [List.getElem_drop]
          congr 1
          omega
    cases hx : (t.take (t.findIdx (· == 46)) ++ t.drop (t.findIdx (· == 46) + 1)).all isDig with
    | false => rfl
    | true => have := (List.all_eq_true.1 hx) c hin; rw [hdc] at this; cases this
  unfold numL
  dsimp only
  split
  · rfl
  · first | rfl | rw [if_pos hd]
end Go.Proofs.YtkifdadhojbohaaDoor.Pu
namespace Go.Proofs.YtkifdadhojbohaaDoor
open Go.RowKit Go.Proofs.YtkifdadhojbohaaDoorW.PrintWords
set_option linter.unusedVariables false
def strings_TrimRight.f (s cut : ByteArray) : Option ByteArray := if cut.data.toList = [48] ∧ s.size ≤ 9223372036854775807 then some ⟨(Lib.trimRightB s.data.toList 48).toArray⟩ else none
theorem strings_TrimRight.calls (a0 a1 : ByteArray) (r : ByteArray) (w : World) (h : strings_TrimRight.f a0 a1 = some r) :
    Calls Tryd.prog 62 #[.string a0, .string a1] w fun e w' => e = .returned (.string r) ∧ Below w.heap.size w w' := by
  unfold strings_TrimRight.f at h
  split at h
  · rename_i h1
    obtain ⟨h1, h2⟩ := h1
    obtain rfl : a1 = ⟨#[48]⟩ := by
      cases a1 with
      | mk d => cases d; simp at h1; subst h1; rfl
    obtain rfl := Option.some.inj h
    exact (Tryd.strings_TrimRight_one a0 48 (by decide) w h2).mono fun e w' hh => ⟨hh.1, hh.2 ▸ Below.refl _ _⟩
  · cases h
/-- The laid table that strconv.FormatInt reads. -/
def Gl (w : World) : Prop := Lib.TabIs Tryd.prog w "internal/strconv.uint64pow10" .u64 Lib.pow10Tab ∧ 1 < w.heap.size
theorem Gl.below {w w' : World} (h : Gl w) (hb : Below w.heap.size w w') : Gl w' :=
  ⟨var?_below (g := 1) hb (by kernel_rfl) h.2 h.1, Nat.lt_of_lt_of_le h.2 hb.size⟩
theorem Gl.drawn {w w' : World} (h : Gl w) (hb : Drawn0 w w') : Gl w' := h.below hb.below
def strconv_FormatInt.f (n base : Int) : Option ByteArray := if base = 10 ∧ 0 ≤ n ∧ n ≤ 9223372036854775807 then some ⟨(Lib.decDigits n.toNat).toArray⟩ else none
theorem strconv_FormatInt.calls (a0 a1 : Int) (r : ByteArray) (w : World) (hG : Gl w) (h : strconv_FormatInt.f a0 a1 = some r) :
    Calls Tryd.prog 61 #[.int .i64 a0, .int .i64 a1] w fun e w' => e = .returned (.string r) ∧ Below w.heap.size w w' := by
  unfold strconv_FormatInt.f at h
  split at h
  · rename_i h1
    obtain ⟨rfl, h2, h3⟩ := h1
    obtain rfl := Option.some.inj h
    refine (Tryd.strconv_FormatInt_10 a0 (by omega) h3 w hG.1).mono fun e w' hh => ⟨?_, ?_⟩
    · rw [hh.1]; unfold Lib.itoa; rw [if_neg (by omega)]
    · obtain ⟨k, os, rfl⟩ := hh.2
      exact Lib.below_grow _ w (Nat.le_refl _) k os
  · cases h
def strings_Count.f (s sub : ByteArray) : Option Int := if sub.data.toList = [10] then some ((Lib.countByte s.data.toList 10 : Nat) : Int) else none
theorem strings_Count.calls (a0 a1 : ByteArray) (r : Int) (w : World) (h : strings_Count.f a0 a1 = some r) :
    Calls Tryd.prog 68 #[.string a0, .string a1] w fun e w' => e = .returned (.int .i64 r) ∧ Below w.heap.size w w' := by
  unfold strings_Count.f at h
  split at h
  · rename_i h1
    obtain rfl : a1 = ⟨#[10]⟩ := by
      cases a1 with
      | mk d => cases d; simp at h1; subst h1; rfl
    obtain rfl := Option.some.inj h
    exact (Tryd.strings_Count_one a0 10 w).mono fun e w' hh => ⟨hh.1, hh.2 ▸ Below.refl _ _⟩
  · cases h
def strings_LastIndexByte.f (s : ByteArray) (c : Int) : Option Int := if s.size < 4611686018427387904 then some (Lib.lastIndexByte s c) else none
theorem strings_LastIndexByte.calls (a0 : ByteArray) (a1 : Int) (r : Int) (w : World) (h : strings_LastIndexByte.f a0 a1 = some r) :
    Calls Tryd.prog 69 #[.string a0, .int .u8 a1] w fun e w' => e = .returned (.int .i64 r) ∧ Below w.heap.size w w' := by
  unfold strings_LastIndexByte.f at h
  split at h
  · rename_i h1
    obtain rfl := Option.some.inj h
    exact (Tryd.strings_LastIndexByte a0 a1 h1 w).mono fun e w' hh => ⟨hh.1, hh.2 ▸ Below.refl _ _⟩
  · cases h
end Go.Proofs.YtkifdadhojbohaaDoor
namespace Go.Proofs.YtkifdadhojbohaaDoor.Pu
open Go.RowKit Go.Proofs.YtkifdadhojbohaaDoor Go.Proofs.YtkifdadhojbohaaDoor.Pr Go.Proofs.YtkifdadhojbohaaDoorW.PrintWords Go.Proofs.YtkifdadhojbohaaDoorW.PrintLast
theorem dig_nat {d : Nat} (h : d < 10) : (UInt8.ofNat (48 + d)).toNat = 48 + d := by
  rw [UInt8.toNat_ofNat']; omega
theorem val_append (a b : List UInt8) : digitsVal (a ++ b) = b.foldl (fun n c => n * 10 + (c.toNat - 48)) (digitsVal a) := by
  simp [digitsVal, List.foldl_append]
/-- The numeral of u: digits, not empty, no nought ahead, and its value. -/
theorem dec_spec (u : Nat) : (∀ c ∈ Lib.decDigits u, 48 ≤ c.toNat ∧ c.toNat ≤ 57) ∧ digitsVal (Lib.decDigits u) = u ∧ Lib.decDigits u ≠ [] ∧ (10 ≤ u → (Lib.decDigits u).head? ≠ some 48) ∧ (1 ≤ u → (Lib.decDigits u).head? ≠ some 48) := by
  induction u using Nat.strongRecOn with
  | _ u ih =>
    by_cases h : u < 10
    · rw [Lib.decDigits_one h]
      have hd := dig_nat h
      refine ⟨?_, ?_, by simp, by omega, ?_⟩
      · intro c hc
        rw [List.mem_singleton] at hc
        rw [hc, hd]; omega
      · simp only [digitsVal, List.foldl_cons, List.foldl_nil]
        rw [hd]; omega
      · intro h1 he
        simp only [List.head?_cons, Option.some.injEq] at he
        have := congrArg UInt8.toNat he
        rw [hd] at this
        have h2 : (48 : UInt8).toNat = 48 := rfl
        omega
    · obtain ⟨a, b, c, _, e⟩ := ih (u / 10) (by omega)
      have hd : (UInt8.ofNat (48 + u % 10)).toNat = 48 + u % 10 := dig_nat (by omega)
      have hh : (Lib.decDigits u).head? = (Lib.decDigits (u / 10)).head? := by
        rw [Lib.decDigits, dif_neg h]
        cases hx : Lib.decDigits (u / 10) with
        | nil => exact absurd hx c
        | cons y ys => rfl
      refine ⟨?_, ?_, ?_, ?_, ?_⟩
      · intro x hx
        rw [Lib.decDigits, dif_neg h] at hx
        rcases List.mem_append.1 hx with hx | hx
        · exact a x hx
        · rw [List.mem_singleton] at hx
          rw [hx, hd]; omega
      · rw [Lib.decDigits, dif_neg h, val_append, b]
        simp only [List.foldl_cons, List.foldl_nil]
        rw [hd]; omega
      · rw [Lib.decDigits, dif_neg h]; simp
      · intro _; rw [hh]; exact e (by omega)
      · intro _; rw [hh]; exact e (by omega)
/-- Three digits. -/
def three (m : Nat) : List UInt8 := [UInt8.ofNat (48 + m / 100), UInt8.ofNat (48 + m / 10 % 10), UInt8.ofNat (48 + m % 10)]
theorem dec_thousand (m : Nat) (h : m < 1000) (q : Nat) (hq : 1 ≤ q) : Lib.decDigits (q * 1000 + m) = Lib.decDigits q ++ three m := by
  rw [Lib.decDigits, dif_neg (by omega), Lib.decDigits, dif_neg (by omega), Lib.decDigits, dif_neg (by omega)]
  rw [show (q * 1000 + m) / 10 / 10 / 10 = q by omega, show (q * 1000 + m) / 10 / 10 % 10 = m / 100 by omega, show (q * 1000 + m) / 10 % 10 = m / 10 % 10 by omega, show (q * 1000 + m) % 10 = m % 10 by omega]
  simp [three]
/-- Without the noughts at the end. -/
def cutZ (l : List UInt8) : List UInt8 := (l.reverse.dropWhile (· == 48)).reverse
/-- The numeral of n thousandths. -/
def numS (n : Nat) : List UInt8 := Lib.decDigits (n / 1000) ++ (if cutZ (three (n % 1000)) = [] then [] else 46 :: cutZ (three (n % 1000)))
theorem cut_fin : ∀ m : Fin 1000, (cutZ (three m.val)).all isDig = true ∧ (cutZ (three m.val)).length ≤ 3 ∧ digitsVal ((cutZ (three m.val) ++ [48, 48, 48]).take 3) = m.val ∧ ((cutZ (three m.val) ++ [48, 48, 48]).take 3).length = 3 ∧ (cutZ (three m.val) = [] → m.val = 0) := by decide +kernel
theorem dig_of {c : UInt8} (h : 48 ≤ c.toNat ∧ c.toNat ≤ 57) : isDig c = true := by
  unfold isDig
  rw [beq_iff_eq]
  exact (kind3 c.toNat).2 h
theorem val_three (a b : List UInt8) (hb : b.length = 3) : digitsVal (a ++ b) = digitsVal a * 1000 + digitsVal b := by
  match b, hb with
  | [x, y, z], _ =>
    rw [val_append]
    simp only [digitsVal, List.foldl_cons, List.foldl_nil]
    omega
theorem numL_numS (n : Nat) (hn : n ≤ 1000000000) : numL (numS n) = ((n : Int), 0) := by
  obtain ⟨a, b, c, _, e⟩ := dec_spec (n / 1000)
  obtain ⟨f1, f2, f3, f5, f4⟩ := cut_fin ⟨n % 1000, Nat.mod_lt _ (by decide)⟩
  dsimp only at f1 f2 f3 f4 f5
  have hno : ∀ x ∈ Lib.decDigits (n / 1000), ¬ (x == (46 : UInt8)) = true := by
    intro x hx he
    rw [beq_iff_eq] at he
    have := a x hx
    rw [he] at this
    exact absurd this.1 (by decide)
  have hlen : (Lib.decDigits (n / 1000)).length ≤ 10 := by
    rw [Lib.decDigits_length]
    rcases Nat.lt_or_ge (Lib.nDigits (n / 1000)) 11 with h | h
    · omega
    · exfalso
      have hp : ∀ u : Nat, u ≤ 1000000 → Lib.nDigits u ≤ 7 := by
        intro u hu
        by_cases h0 : u < 10
        · rw [Lib.nDigits_small h0]; omega
        · have := Lib.nDigits_unique
          rcases (by omega : (10 ≤ u ∧ u < 100) ∨ (100 ≤ u ∧ u < 1000) ∨ (1000 ≤ u ∧ u < 10000) ∨ (10000 ≤ u ∧ u < 100000) ∨ (100000 ≤ u ∧ u < 1000000) ∨ (1000000 ≤ u ∧ u < 10000000)) with h | h | h | h | h | h
          · rw [this 1 u (by omega) (by omega)]; omega
          · rw [this 2 u (by omega) (by omega)]; omega
          · rw [this 3 u (by omega) (by omega)]; omega
          · rw [this 4 u (by omega) (by omega)]; omega
          · rw [this 5 u (by omega) (by omega)]; omega
          · rw [this 6 u (by omega) (by omega)]; omega
      have := hp (n / 1000) (by omega)
      omega
  have hall : (Lib.decDigits (n / 1000)).all isDig = true := List.all_eq_true.2 (fun x hx => dig_of (a x hx))
  have hhead : ¬ (1 < (Lib.decDigits (n / 1000)).length ∧ (Lib.decDigits (n / 1000)).head? = some 48) := by
    rintro ⟨h1, h2⟩
    by_cases h0 : n / 1000 < 10
    · rw [Lib.decDigits_one h0] at h1; simp at h1
    · exact e (by omega) h2
  have hval : digitsVal (Lib.decDigits (n / 1000) ++ (cutZ (three (n % 1000)) ++ [48, 48, 48]).take 3) = n := by
    rw [val_three _ _ f5, b, f3]; omega
  have key : ∀ t : List UInt8, ∀ i, t.findIdx (· == 46) = i → t.take i = Lib.decDigits (n / 1000) → t.drop (i + 1) = cutZ (three (n % 1000)) → ¬ (i < t.length ∧ (cutZ (three (n % 1000)) = [] ∨ 3 < (cutZ (three (n % 1000))).length)) → numL t = ((n : Int), 0) := by
    intro t i hi ht hp hc
    unfold numL
    simp only [hi, ht, hp]
    rw [if_neg (by rintro (h | h | h); exact c h; exact hhead h; exact hc h), if_neg (by rw [List.all_append, hall, f1]; decide), if_neg (by omega), hval, if_neg (by omega)]
  have hidx : ∀ r : List UInt8, (Lib.decDigits (n / 1000) ++ 46 :: r).findIdx (· == 46) = (Lib.decDigits (n / 1000)).length := by
    intro r
    rw [List.findIdx_append, if_neg]
    · rw [List.findIdx_cons]; simp
    · intro h
      rw [List.findIdx_lt_length] at h
      obtain ⟨x, hx, hy⟩ := h
      exact hno x hx hy
  unfold numS
  by_cases hz : cutZ (three (n % 1000)) = []
  · rw [if_pos hz, List.append_nil]
    refine key _ (Lib.decDigits (n / 1000)).length (List.findIdx_eq_length.2 fun x hx => by simpa using hno x hx) (List.take_length ..) ?_ (by omega)
    rw [hz, List.drop_eq_nil_of_le (by omega)]
  · rw [if_neg hz]
    refine key _ _ (hidx _) List.take_left ?_ ?_
    · rw [← List.drop_drop, List.drop_left]; rfl
    · rintro ⟨_, h | h⟩
      · exact hz h
      · omega
/-- A valid token. -/
def validB (k : Int) (t : List UInt8) (n : Int) : Bool :=
  if k ≠ 2 ∧ n ≠ 0 then false
  else if k = 1 then t.all isRunB && wordL t == 0
  else if k = 2 then t == [] && decide (0 ≤ n) && decide (n ≤ 1000000000)
  else if k = 3 then titleL t == 0
  else if k = 4 then t.length == 1 && t.all fun c => kindOf c.toNat == 5
  else if k = 5 then t == [] else false
/-- The spelling. -/
def spellS (k : Int) (t : List UInt8) (n : Int) : List UInt8 :=
  if k = 3 then 34 :: t ++ [34] else if k = 2 then (if 0 ≤ n ∧ n ≤ 1000000000 then numS n.toNat else []) else if k = 1 ∨ k = 4 then t else []
theorem str_append (a b : List UInt8) : str a ++ str b = str (a ++ b) := by
  apply lst_inj; rw [lst_append]; rfl
theorem dec_len (u : Nat) (hu : u ≤ 10000000) : (Lib.decDigits u).length ≤ 8 := by
  rw [Lib.decDigits_length]
  by_cases h0 : u < 10
  · rw [Lib.nDigits_small h0]; omega
  · have := Lib.nDigits_unique
    rcases (by omega : (10 ≤ u ∧ u < 100) ∨ (100 ≤ u ∧ u < 1000) ∨ (1000 ≤ u ∧ u < 10000) ∨ (10000 ≤ u ∧ u < 100000) ∨ (100000 ≤ u ∧ u < 1000000) ∨ (1000000 ≤ u ∧ u < 10000000) ∨ (10000000 ≤ u ∧ u < 100000000)) with h | h | h | h | h | h | h
    · rw [this 1 u (by omega) (by omega)]; omega
    · rw [this 2 u (by omega) (by omega)]; omega
    · rw [this 3 u (by omega) (by omega)]; omega
    · rw [this 4 u (by omega) (by omega)]; omega
    · rw [this 5 u (by omega) (by omega)]; omega
    · rw [this 6 u (by omega) (by omega)]; omega
    · rw [this 7 u (by omega) (by omega)]; omega
theorem fmt_f (n : Nat) (hn : n ≤ 2000000000) : strconv_FormatInt.f (n : Int) 10 = some (str (Lib.decDigits n)) := by
  unfold strconv_FormatInt.f
  rw [if_pos (by omega)]
  rfl
theorem tw_all {α : Type} {p : α → Bool} : ∀ {l : List α}, l.all p = true → l.takeWhile p = l ∧ l.dropWhile p = []
  | [], _ => ⟨rfl, rfl⟩
  | a :: l, h => by
    rw [List.all_cons, Bool.and_eq_true] at h
    obtain ⟨h1, h2⟩ := tw_all (l := l) h.2
    exact ⟨by rw [List.takeWhile_cons_of_pos h.1, h1], by rw [List.dropWhile_cons_of_pos h.1, h2]⟩
theorem run_no {c : UInt8} (h : isRunB c = true) : c.toNat ≠ 34 ∧ kindOf c.toNat ≠ 5 ∧ c.toNat ≠ 35 ∧ kindOf c.toNat ≠ 1 := by
  unfold isRunB at h
  simp only [Bool.or_eq_true, beq_iff_eq] at h
  have h2 := kind2 c.toNat; have h3 := kind3 c.toNat; have h4 := kind4 c.toNat
  refine ⟨?_, ?_, ?_, ?_⟩ <;> omega
/-- All of a run at once. -/
theorem tok_run (t : List UInt8) (h : t ≠ []) (ha : t.all isRunB = true) : tokL t = clsL t [] := by
  cases t with
  | nil => exact absurd rfl h
  | cons c l =>
    rw [List.all_cons, Bool.and_eq_true] at ha
    obtain ⟨h1, h2⟩ := tw_all ha.2
    unfold tokL
    dsimp only
    rw [if_pos ha.1, h1, h2]
/-- The condition that the reference's Valid holds against the token that it reads. -/
def readsAs (k : Int) (t : List UInt8) (n : Int) (s : List UInt8) : Prop := (tokL s).code = 0 ∧ (tokL s).rest = [] ∧ (tokL s).kind = k ∧ (tokL s).text = t ∧ (tokL s).n = n
theorem isRun_of_dig {c : UInt8} (h : isDig c = true) : isRunB c = true := by
  unfold isDig at h; unfold isRunB
  rw [beq_iff_eq] at h
  rw [h]; rfl
theorem numS_run (n : Nat) : (numS n).all isRunB = true ∧ numS n ≠ [] := by
  obtain ⟨a, _, c, _, _⟩ := dec_spec (n / 1000)
  obtain ⟨f1, _⟩ := cut_fin ⟨n % 1000, Nat.mod_lt _ (by decide)⟩
  dsimp only at f1
  have h1 : (Lib.decDigits (n / 1000)).all isRunB = true := List.all_eq_true.2 fun x hx => isRun_of_dig (dig_of (a x hx))
  have h2 : (cutZ (three (n % 1000))).all isRunB = true := List.all_eq_true.2 fun x hx => isRun_of_dig (List.all_eq_true.1 f1 x hx)
  unfold numS
  refine ⟨?_, by intro h; exact c (List.append_eq_nil_iff.1 h).1⟩
  rw [List.all_append, h1, Bool.true_and]
  split
  · rfl
  · rw [List.all_cons, h2]; rfl
theorem numS_len (n : Nat) (hn : n ≤ 1000000000) : (numS n).length ≤ 12 := by
  have h := dec_len (n / 1000) (by omega)
  obtain ⟨_, f2, _⟩ := cut_fin ⟨n % 1000, Nat.mod_lt _ (by decide)⟩
  dsimp only at f2
  unfold numS
  rw [List.length_append]
  split
  · simp; omega
  · rw [List.length_cons]; omega
theorem wordL_zero {t : List UInt8} (h : wordL t = 0) : t ≠ [] ∧ t.length ≤ 32 ∧ t.any isLet = true := by
  unfold wordL at h
  by_cases hd : t.any isDot = true
  · rw [if_pos hd] at h; cases h
  · rw [if_neg hd] at h
    by_cases hl : t.any isLet = true
    · rw [if_pos hl] at h
      by_cases h32 : 32 < t.length
      · rw [if_pos h32] at h; cases h
      · refine ⟨?_, by omega, hl⟩
        intro e; subst e; cases hl
    · rw [if_neg hl] at h; cases h
theorem titleL_zero {t : List UInt8} (h : titleL t = 0) : t ≠ [] ∧ t.length ≤ 40 ∧ t.all inStr = true := by
  unfold titleL at h
  by_cases h1 : t = [] ∨ t.head? = some 32 ∨ t.getLast? = some 32
  · rw [if_pos h1] at h; cases h
  · rw [if_neg h1] at h
    by_cases h2 : t.any badT = true
    · rw [if_pos h2] at h; cases h
    · rw [if_neg h2] at h
      by_cases h3 : 40 < t.length
      · rw [if_pos h3] at h; cases h
      · refine ⟨fun e => h1 (.inl e), by omega, ?_⟩
        rw [List.all_eq_true]
        intro x hx
        have hb : badT x = false := by
          cases hb : badT x with
          | false => rfl
          | true => exact absurd (List.any_eq_true.2 ⟨x, hx, hb⟩) h2
        unfold badT at hb
        simp only [Bool.or_eq_false_iff, decide_eq_false_iff_not, beq_eq_false_iff_ne] at hb
        unfold inStr
        simp only [Bool.and_eq_true, bne_iff_ne]
        omega
theorem tok_quote (t : List UInt8) (h : t.all inStr = true) : tokL (34 :: t ++ [34]) = ⟨3, t, 0, [], titleL t⟩ := by
  have e : tokL (34 :: t ++ [34]) = textL (t ++ [34]) := by
    have hr : isRunB 34 = false := by decide
    have : tokL (34 :: (t ++ [34])) = textL (t ++ [34]) := by
      unfold tokL; dsimp only; rw [if_neg (by simp [hr]), if_pos (by rfl)]
    exact this
  obtain ⟨h1, h2⟩ := tw_all h
  have t1 : (t ++ [34]).takeWhile inStr = t := by
    rw [List.takeWhile_append, if_pos (by rw [h1]), List.takeWhile_cons_of_neg (by decide), List.append_nil]
  have t2 : (t ++ [34]).dropWhile inStr = [34] := by
    rw [List.dropWhile_append, if_pos (by rw [h2]; rfl), List.dropWhile_cons_of_neg (by decide)]
  rw [e]
  unfold textL
  rw [t1, t2]
  rfl
/-- A valid token's spelling is read as that token. -/
theorem reads_of_valid {k n : Int} {t : List UInt8} (h : validB k t n = true) (h5 : k ≠ 5) : readsAs k t n (spellS k t n) ∧ spellS k t n ≠ [] ∧ (spellS k t n).length ≤ 60 := by
  unfold validB at h
  by_cases hn : k ≠ 2 ∧ n ≠ 0
  · rw [if_pos hn] at h; cases h
  · rw [if_neg hn] at h
    by_cases h1 : k = 1
    · subst h1
      obtain rfl : n = 0 := by omega
      rw [if_pos rfl, Bool.and_eq_true, beq_iff_eq] at h
      obtain ⟨g1, g2, g3⟩ := wordL_zero h.2
      have e : spellS 1 t 0 = t := by simp [spellS]
      rw [e]
      refine ⟨?_, g1, by omega⟩
      unfold readsAs
      rw [tok_run t g1 h.1]
      unfold clsL
      rw [if_pos (let_num t g3), h.2]
      exact ⟨rfl, rfl, rfl, rfl, rfl⟩
    · rw [if_neg h1] at h
      by_cases h2 : k = 2
      · subst h2
        rw [if_pos rfl, Bool.and_eq_true, Bool.and_eq_true, decide_eq_true_eq, decide_eq_true_eq, beq_iff_eq] at h
        obtain ⟨⟨rfl, g0⟩, g1⟩ := h
        obtain ⟨m, rfl⟩ : ∃ m : Nat, n = (m : Int) := ⟨n.toNat, by omega⟩
        have e : spellS 2 [] (m : Int) = numS m := by
          unfold spellS
          rw [if_neg (by decide), if_pos rfl, if_pos ⟨g0, g1⟩]; rfl
        obtain ⟨r1, r2⟩ := numS_run m
        have hl := numS_len m (by omega)
        rw [e]
        refine ⟨?_, r2, by omega⟩
        unfold readsAs
        rw [tok_run _ r2 r1]
        unfold clsL
        rw [numL_numS m (by omega), if_neg (show ¬ (0 : Int) = 2 by decide)]
        exact ⟨rfl, rfl, rfl, rfl, rfl⟩
      · rw [if_neg h2] at h
        obtain rfl : n = 0 := by omega
        by_cases h3 : k = 3
        · subst h3
          rw [if_pos rfl, beq_iff_eq] at h
          obtain ⟨g1, g2, g3⟩ := titleL_zero h
          have e : spellS 3 t 0 = 34 :: t ++ [34] := by simp [spellS]
          rw [e]
          refine ⟨?_, by simp, by simp; omega⟩
          unfold readsAs
          rw [tok_quote t g3]
          exact ⟨h, rfl, rfl, rfl, rfl⟩
        · rw [if_neg h3] at h
          by_cases h4 : k = 4
          · subst h4
            rw [if_pos rfl, Bool.and_eq_true, beq_iff_eq] at h
            have e : spellS 4 t 0 = t := by simp [spellS]
            rw [e]
            match t, h with
            | [c], h =>
              have hc : kindOf c.toNat = 5 := by simpa using h.2
              refine ⟨?_, by simp, by simp⟩
              unfold readsAs
              have h34 : c.toNat ≠ 34 := by have := kind5 c.toNat; omega
              have : tokL [c] = ⟨4, [c], 0, [], 0⟩ := by
                unfold tokL; dsimp only
                rw [if_neg (by simp [isRunB, hc]), if_neg h34, if_pos hc]
              rw [this]
              exact ⟨rfl, rfl, rfl, rfl, rfl⟩
          · rw [if_neg h4, if_neg h5] at h; cases h
theorem Ev.const {α : Type} {x : Option α} {r : α} (h : x = some r) : Ev (fun _ => x) r := by subst h; exact Ev.now r
end Go.Proofs.YtkifdadhojbohaaDoor.Pu
namespace Go.Proofs.YtkifdadhojbohaaDoor.Pr
open Go.Proofs.YtkifdadhojbohaaDoor
open Go.RowKit Go.Proofs.YtkifdadhojbohaaDoorW.PrintWords Go.Proofs.YtkifdadhojbohaaDoorW.PrintLast Go.Proofs.YtkifdadhojbohaaDoorW.PrintMore
attribute [local go_sem] max2_int min2_int max_two min_two max_three min_three max_four min_four   -- for this text's walks alone
set_option linter.unusedVariables false
set_option linter.unusedSimpArgs false
mutual
def parser_Depth.l0 : Nat → Int → List (S41) → Int → Int → Option (Int)
 | 0, _, _, _, _ => none
 | k + 1, x3, x6, x7, x8 => if x8 < x7 then (if 0 ≤ x8 then (if x8 < (x6.length : Int) then (if (rd_T41 x6 x8).f2 = true then ((parser_Depth.f k ((rd_T41 x6 x8).f3)).bind fun t181 => (parser_Depth.l0 k (mx x3 (wrap64 (1 + t181))) x6 x7 (wrap64 (x8 + 1)))) else (parser_Depth.l0 k x3 x6 x7 (wrap64 (x8 + 1)))) else (none)) else (none)) else (some x3)
def parser_Depth.f : Nat → List (S41) → Option (Int)
 | 0, _ => none
 | k + 1, l0 => parser_Depth.l0 k 0 l0 (l0.length : Int) 0
end
theorem parser_Depth.mono_l : ∀ k, (∀ y0, LeO (parser_Depth.f k y0) (parser_Depth.f (k + 1) y0)) ∧ (∀ y0 y1 y2 y3, LeO (parser_Depth.l0 k y0 y1 y2 y3) (parser_Depth.l0 (k + 1) y0 y1 y2 y3))
 | 0 => ⟨fun _ r h => by simp [parser_Depth.f] at h, fun _ _ _ _ r h => by simp [parser_Depth.l0] at h⟩
 | k + 1 => by
  obtain ⟨ih0, ih1⟩ := parser_Depth.mono_l k
  refine ⟨?_, ?_⟩
  ·
   intro y0
   unfold parser_Depth.f
   repeat' first
   | (with_reducible exact LeO.refl _)
   | exact ih0 _
   | exact ih1 _ _ _ _
   | exact LeO.none _
   | refine LeO.ite ?_ ?_
   | refine LeO.bind ?_ (fun _ => ?_)
  ·
   intro y0 y1 y2 y3
   unfold parser_Depth.l0
   repeat' first
   | (with_reducible exact LeO.refl _)
   | exact ih0 _
   | exact ih1 _ _ _ _
   | exact LeO.none _
   | refine LeO.ite ?_ ?_
   | refine LeO.bind ?_ (fun _ => ?_)
theorem parser_Depth.mono : ∀ a0 k, LeO (parser_Depth.f k a0) (parser_Depth.f (k + 1) a0) := by
 intro a0 k
 obtain ⟨ih0, ih1⟩ := parser_Depth.mono_l k
 exact ih0 a0
set_option maxHeartbeats 8000000 in
set_option maxRecDepth 100000 in
theorem parser_Depth.calls (k : Nat) : ∀ (A0 : Option Addr) (c0 : Nat) (l0 : List (S41)) (r : Int) (w : World) (hr0 : Kd.C k41 w A0 l0.length l0) (hc0 : l0.length ≤ c0) (h : parser_Depth.f k l0 = some r),
  Calls Tryd.prog 31 #[.slice A0 l0.length c0] w fun e w' => e = .returned (.int .i64 r) ∧ Below w.heap.size w w' := by
 induction k using Nat.strongRecOn with
 | _ k ih =>
 intro A0 c0 l0 r w hr0 hc0 h
 cases k with
 | zero => exact absurd h (by simp [parser_Depth.f])
 | succ k =>
 simp only [parser_Depth.f] at h
 have hu41 := Tryd.underlying41
 have HR0 := Aside0.mk hr0
 have HC0 := Aside0.mk hc0
 clear hr0 hc0
 have HB := Aside0.mk (Below.refl w.heap.size w)
 have H : (parser_Depth.l0 k 0 l0 (l0.length : Int) 0) = some r := h
 clear h
 have H' := Aside0.mk H
 clear H
 go_enter Tryd.func31, Tryd.ntmps31
 go_wp2
 go_loopg [3, 8] k (fun kq v3 v8 w' => ∃ (x3_1 : Int) (x8_1 : Int), v3 = .int .i64 x3_1 ∧ v8 = .int .i64 x8_1 ∧ Aside0 (parser_Depth.l0 kq x3_1 l0 (l0.length : Int) x8_1 = some r) ∧ Aside0 (kq ≤ k) ∧ Aside0 (Below w.heap.size w w'))
 case atStart => exact ⟨(0), (0), sr_, sr_, H', ⟨Nat.le_refl _⟩, ⟨bl_ HB.out⟩⟩
 case round =>
  clear H'
  obtain ⟨x3_1, x8_1, rfl, rfl, HA, HK1, HB⟩ := hrel
  cases gk with
  | zero => exact absurd HA.out (by simp [parser_Depth.l0])
  | succ k1 =>
   have H := HA.out
   clear HA
   simp only [parser_Depth.l0] at H
   by_cases c2 : x8_1 < (l0.length : Int)
   ·
    rw [if_pos c2] at H
    have c2b0 := decide_eq_true c2
    clear c2
    by_cases c3 : 0 ≤ x8_1
    ·
     rw [if_pos c3] at H
     have c3b0 := decide_eq_true c3
     clear c3
     by_cases c4 : x8_1 < (l0.length : Int)
     ·
      rw [if_pos c4] at H
      have c4b0 := decide_eq_true c4
      clear c4
      obtain ⟨bq5, hbq5⟩ : ∃ b_ : Bool, b_ = ((rd_T41 l0 x8_1).f2) := ⟨_, rfl⟩
      replace H : (if bq5 = true then ((parser_Depth.f k1 ((rd_T41 l0 x8_1).f3)).bind fun t181 => (parser_Depth.l0 k1 (mx x3_1 (wrap64 (1 + t181))) l0 (l0.length : Int) (wrap64 (x8_1 + 1)))) else (parser_Depth.l0 k1 x3_1 l0 (l0.length : Int) (wrap64 (x8_1 + 1)))) = some r := by rw [← hbq5] at H; exact H
      have Nbq5 := Aside0.mk hbq5
      clear hbq5
      by_cases c6 : bq5 = true
      ·
       subst c6
       have H1 : ((parser_Depth.f k1 ((rd_T41 l0 x8_1).f3)).bind fun t181 => (parser_Depth.l0 k1 (mx x3_1 (wrap64 (1 + t181))) l0 (l0.length : Int) (wrap64 (x8_1 + 1)))) = some r := by rw [if_pos rfl] at H; exact H
       clear H
       have H := H1
       clear H1
       replace H := Option.bind_eq_some_iff.mp H
       obtain ⟨t181, A70, H⟩ := H
       (try dsimp only at H)
       have A7 := Aside0.mk A70
       clear A70
       obtain ⟨ji8, hji8⟩ : ∃ j_ : Int, (mx x3_1 (wrap64 (1 + t181))) = j_ := ⟨_, rfl⟩
       replace H : (parser_Depth.l0 k1 ji8 l0 (l0.length : Int) (wrap64 (x8_1 + 1))) = some r := by first | (rw [hji8] at H; exact H) | (simp only [hji8] at H ⊢; exact H)
       (try rw [hji8] at A7)
       have hji8_ : (if x3_1 < (wrap64 (1 + t181)) then (wrap64 (1 + t181)) else x3_1) = ji8 := hji8
       have H' := Aside0.mk H
       clear H
       have p179 : 0 ≤ (x8_1 : Int) := dt_
       have q179 : x8_1 < (l0.length : Int) := dt_
       obtain ⟨ad179, A179_1, c179_1, A179_3, c179_3, e179, hx179_0, hx179_1, hx179_2, hx179_3, hx179_4, hl179_1, hi179_1, hl179_3, hi179_3⟩ := at_T41 HR0.out x8_1 p179 q179
       (try rw [← Nbq5.out] at hx179_2)
       cases e179
       replace hx179_0 := pw_cell_below HB.out hx179_0
       replace hx179_1 := pw_cell_below HB.out hx179_1
       replace hx179_2 := pw_cell_below HB.out hx179_2
       replace hx179_3 := pw_cell_below HB.out hx179_3
       replace hx179_4 := pw_cell_below HB.out hx179_4
       have HR179_1 := Aside0.mk hi179_1
       have HC179_1 := Aside0.mk hl179_1
       clear hi179_1 hl179_1
       have HR179_3 := Aside0.mk hi179_3
       have HC179_3 := Aside0.mk hl179_3
       clear hi179_3 hl179_3
       replace p179 := eq_true p179
       replace q179 := eq_true q179
       go_wp2_with (first | ((with_reducible refine gate_dst (N := 5) rfl ?_); refine bx_ (N := 5) (cs := #[.string (⟨#[]⟩ : ByteArray), .slice none 0 0, .bool false, .slice none 0 0, .int .i64 0]) (t := 41) ?_; intro gb180 hg w9 hbox hb; refine cut4_ (below_step (bl_ HB.out) hb) (hbox) (bz_ (w := w) hg (bl_ HB.out)) (bz_ (w := w) hg (bl_ HB.out)) ?_; clear HB; intro HB BK180 GW180 GE180; clear hb hbox hg; obtain ⟨hcz10_0, hcz10_1, hcz10_2, hcz10_3, hcz10_4, hfz10_0, hfz10_1, hfz10_2, hfz10_3, hfz10_4⟩ := cq5_ BK180.out) | ((with_reducible refine gate_callee (f := 31) rfl ?_); refine goesL_ (some 17) rfl rfl Tryd.func31 (by kernel_rfl) rfl #[.slice A179_3 ((rd_T41 l0 x8_1).f3).length c179_3] rfl ga_ ?_; (with_reducible refine (ih k1 (by have := HK1.out; omega) _ _ ((rd_T41 l0 x8_1).f3) t181 _ ?side1 ?side2 A7.out).mono ?_); (case side1 => exact Kd.C_below HR179_3.out (bl1_ HB.out GE180.out)); (case side2 => exact HC179_3.out); rintro e w11 ⟨rfl, hb⟩; refine ⟨_, rfl, ?_⟩; refine cut2_ (blk_below (g := gb180) (o := .cells #[.string ((rd_T41 l0 x8_1).f0), .slice A179_1 ((rd_T41 l0 x8_1).f1).length c179_1, .bool true, .slice A179_3 ((rd_T41 l0 x8_1).f3).length c179_3, .int .i64 ((rd_T41 l0 x8_1).f4)] 41 (0, 0)) (put5_ (bk_ BK180.out)) hb) (below_step (bl1_ HB.out GE180.out) hb) ?_; clear BK180 HB; intro BK180 HB; (try clear hb); (try clear hb2); (try clear hk); (try clear hi)))
       go_roundg k1
       case measure => have := HK1.out; omega
       case rel => exact ⟨(ji8), (wrap64 (x8_1 + 1)), (by first | rfl | (simp; done) | (simp only [← hji8] <;> (first | rfl | simp)) | (simp [*]; done)), sr_, H', ⟨by have := HK1.out; omega⟩, ⟨bl1_ HB.out GE180.out⟩⟩
      ·
       replace c6 := Bool.eq_false_iff.mpr c6
       subst c6
       have H1 : (parser_Depth.l0 k1 x3_1 l0 (l0.length : Int) (wrap64 (x8_1 + 1))) = some r := by rw [if_neg (show ¬ (false = true) by decide)] at H; exact H
       clear H
       have H := H1
       clear H1
       have H' := Aside0.mk H
       clear H
       have p179 : 0 ≤ (x8_1 : Int) := dt_
       have q179 : x8_1 < (l0.length : Int) := dt_
       obtain ⟨ad179, A179_1, c179_1, A179_3, c179_3, e179, hx179_0, hx179_1, hx179_2, hx179_3, hx179_4, hl179_1, hi179_1, hl179_3, hi179_3⟩ := at_T41 HR0.out x8_1 p179 q179
       (try rw [← Nbq5.out] at hx179_2)
       cases e179
       replace hx179_0 := pw_cell_below HB.out hx179_0
       replace hx179_1 := pw_cell_below HB.out hx179_1
       replace hx179_2 := pw_cell_below HB.out hx179_2
       replace hx179_3 := pw_cell_below HB.out hx179_3
       replace hx179_4 := pw_cell_below HB.out hx179_4
       have HR179_1 := Aside0.mk hi179_1
       have HC179_1 := Aside0.mk hl179_1
       clear hi179_1 hl179_1
       have HR179_3 := Aside0.mk hi179_3
       have HC179_3 := Aside0.mk hl179_3
       clear hi179_3 hl179_3
       replace p179 := eq_true p179
       replace q179 := eq_true q179
       go_wp2_with (first | ((with_reducible refine gate_dst (N := 5) rfl ?_); refine bx_ (N := 5) (cs := #[.string (⟨#[]⟩ : ByteArray), .slice none 0 0, .bool false, .slice none 0 0, .int .i64 0]) (t := 41) ?_; intro gb180 hg w12 hbox hb; refine cut4_ (below_step (bl_ HB.out) hb) (hbox) (bz_ (w := w) hg (bl_ HB.out)) (bz_ (w := w) hg (bl_ HB.out)) ?_; clear HB; intro HB BK180 GW180 GE180; clear hb hbox hg; obtain ⟨hcz13_0, hcz13_1, hcz13_2, hcz13_3, hcz13_4, hfz13_0, hfz13_1, hfz13_2, hfz13_3, hfz13_4⟩ := cq5_ BK180.out))
       go_roundg k1
       case measure => have := HK1.out; omega
       case rel => exact ⟨(x3_1), (wrap64 (x8_1 + 1)), sr_, sr_, H', ⟨by have := HK1.out; omega⟩, ⟨bl1_ HB.out GE180.out⟩⟩
     ·
      rw [if_neg c4] at H
      exact absurd H (by simp)
    ·
     rw [if_neg c3] at H
     exact absurd H (by simp)
   ·
    rw [if_neg c2] at H
    have c2b0 := decide_eq_false c2
    clear c2
    obtain rfl := Option.some.inj H
    go_wp2
    go_ret
    exact ⟨er_, bl_ HB.out⟩
mutual
def parser_Count.l0 : Nat → Int → List (S41) → Int → Int → Option (Int)
 | 0, _, _, _, _ => none
 | k + 1, x3, x8, x9, x10 => if x10 < x9 then (if 0 ≤ x10 then (if x10 < (x8.length : Int) then ((parser_Count.f k ((rd_T41 x8 x10).f3)).bind fun t200 => (parser_Count.l0 k (wrap64 (x3 + t200)) x8 x9 (wrap64 (x10 + 1)))) else (none)) else (none)) else (some x3)
def parser_Count.f : Nat → List (S41) → Option (Int)
 | 0, _ => none
 | k + 1, l0 => parser_Count.l0 k (l0.length : Int) l0 (l0.length : Int) 0
end
theorem parser_Count.mono_l : ∀ k, (∀ y0, LeO (parser_Count.f k y0) (parser_Count.f (k + 1) y0)) ∧ (∀ y0 y1 y2 y3, LeO (parser_Count.l0 k y0 y1 y2 y3) (parser_Count.l0 (k + 1) y0 y1 y2 y3))
 | 0 => ⟨fun _ r h => by simp [parser_Count.f] at h, fun _ _ _ _ r h => by simp [parser_Count.l0] at h⟩
 | k + 1 => by
  obtain ⟨ih0, ih1⟩ := parser_Count.mono_l k
  refine ⟨?_, ?_⟩
  ·
   intro y0
   unfold parser_Count.f
   repeat' first
   | (with_reducible exact LeO.refl _)
   | exact ih0 _
   | exact ih1 _ _ _ _
   | exact LeO.none _
   | refine LeO.ite ?_ ?_
   | refine LeO.bind ?_ (fun _ => ?_)
  ·
   intro y0 y1 y2 y3
   unfold parser_Count.l0
   repeat' first
   | (with_reducible exact LeO.refl _)
   | exact ih0 _
   | exact ih1 _ _ _ _
   | exact LeO.none _
   | refine LeO.ite ?_ ?_
   | refine LeO.bind ?_ (fun _ => ?_)
theorem parser_Count.mono : ∀ a0 k, LeO (parser_Count.f k a0) (parser_Count.f (k + 1) a0) := by
 intro a0 k
 obtain ⟨ih0, ih1⟩ := parser_Count.mono_l k
 exact ih0 a0
set_option maxHeartbeats 8000000 in
set_option maxRecDepth 100000 in
theorem parser_Count.calls (k : Nat) : ∀ (A0 : Option Addr) (c0 : Nat) (l0 : List (S41)) (r : Int) (w : World) (hr0 : Kd.C k41 w A0 l0.length l0) (hc0 : l0.length ≤ c0) (h : parser_Count.f k l0 = some r),
  Calls Tryd.prog 30 #[.slice A0 l0.length c0] w fun e w' => e = .returned (.int .i64 r) ∧ Below w.heap.size w w' := by
 induction k using Nat.strongRecOn with
 | _ k ih =>
 intro A0 c0 l0 r w hr0 hc0 h
 cases k with
 | zero => exact absurd h (by simp [parser_Count.f])
 | succ k =>
 simp only [parser_Count.f] at h
 have hu41 := Tryd.underlying41
 have HR0 := Aside0.mk hr0
 have HC0 := Aside0.mk hc0
 clear hr0 hc0
 have HB := Aside0.mk (Below.refl w.heap.size w)
 have H : (parser_Count.l0 k (l0.length : Int) l0 (l0.length : Int) 0) = some r := h
 clear h
 have H' := Aside0.mk H
 clear H
 go_enter Tryd.func30, Tryd.ntmps30
 go_wp2
 go_loopg [3, 10] k (fun kq v3 v10 w' => ∃ (x3_1 : Int) (x10_1 : Int), v3 = .int .i64 x3_1 ∧ v10 = .int .i64 x10_1 ∧ Aside0 (parser_Count.l0 kq x3_1 l0 (l0.length : Int) x10_1 = some r) ∧ Aside0 (kq ≤ k) ∧ Aside0 (Below w.heap.size w w'))
 case atStart => exact ⟨((l0.length : Int)), (0), sr_, sr_, H', ⟨Nat.le_refl _⟩, ⟨bl_ HB.out⟩⟩
 case round =>
  clear H'
  obtain ⟨x3_1, x10_1, rfl, rfl, HA, HK1, HB⟩ := hrel
  cases gk with
  | zero => exact absurd HA.out (by simp [parser_Count.l0])
  | succ k1 =>
   have H := HA.out
   clear HA
   simp only [parser_Count.l0] at H
   by_cases c2 : x10_1 < (l0.length : Int)
   ·
    rw [if_pos c2] at H
    have c2b0 := decide_eq_true c2
    clear c2
    by_cases c3 : 0 ≤ x10_1
    ·
     rw [if_pos c3] at H
     have c3b0 := decide_eq_true c3
     clear c3
     by_cases c4 : x10_1 < (l0.length : Int)
     ·
      rw [if_pos c4] at H
      have c4b0 := decide_eq_true c4
      clear c4
      replace H := Option.bind_eq_some_iff.mp H
      obtain ⟨t200, A50, H⟩ := H
      (try dsimp only at H)
      have A5 := Aside0.mk A50
      clear A50
      have H' := Aside0.mk H
      clear H
      have p198 : 0 ≤ (x10_1 : Int) := dt_
      have q198 : x10_1 < (l0.length : Int) := dt_
      obtain ⟨ad198, A198_1, c198_1, A198_3, c198_3, e198, hx198_0, hx198_1, hx198_2, hx198_3, hx198_4, hl198_1, hi198_1, hl198_3, hi198_3⟩ := at_T41 HR0.out x10_1 p198 q198
      cases e198
      replace hx198_0 := pw_cell_below HB.out hx198_0
      replace hx198_1 := pw_cell_below HB.out hx198_1
      replace hx198_2 := pw_cell_below HB.out hx198_2
      replace hx198_3 := pw_cell_below HB.out hx198_3
      replace hx198_4 := pw_cell_below HB.out hx198_4
      have HR198_1 := Aside0.mk hi198_1
      have HC198_1 := Aside0.mk hl198_1
      clear hi198_1 hl198_1
      have HR198_3 := Aside0.mk hi198_3
      have HC198_3 := Aside0.mk hl198_3
      clear hi198_3 hl198_3
      replace p198 := eq_true p198
      replace q198 := eq_true q198
      go_wp2_with (first | ((with_reducible refine gate_dst (N := 5) rfl ?_); refine bx_ (N := 5) (cs := #[.string (⟨#[]⟩ : ByteArray), .slice none 0 0, .bool false, .slice none 0 0, .int .i64 0]) (t := 41) ?_; intro gb199 hg w6 hbox hb; refine cut4_ (below_step (bl_ HB.out) hb) (hbox) (bz_ (w := w) hg (bl_ HB.out)) (bz_ (w := w) hg (bl_ HB.out)) ?_; clear HB; intro HB BK199 GW199 GE199; clear hb hbox hg; obtain ⟨hcz7_0, hcz7_1, hcz7_2, hcz7_3, hcz7_4, hfz7_0, hfz7_1, hfz7_2, hfz7_3, hfz7_4⟩ := cq5_ BK199.out) | ((with_reducible refine gate_callee (f := 30) rfl ?_); refine goesL_ (some 17) rfl rfl Tryd.func30 (by kernel_rfl) rfl #[.slice A198_3 ((rd_T41 l0 x10_1).f3).length c198_3] rfl ga_ ?_; (with_reducible refine (ih k1 (by have := HK1.out; omega) _ _ ((rd_T41 l0 x10_1).f3) t200 _ ?side1 ?side2 A5.out).mono ?_); (case side1 => exact Kd.C_below HR198_3.out (bl1_ HB.out GE199.out)); (case side2 => exact HC198_3.out); rintro e w8 ⟨rfl, hb⟩; refine ⟨_, rfl, ?_⟩; refine cut2_ (blk_below (g := gb199) (o := .cells #[.string ((rd_T41 l0 x10_1).f0), .slice A198_1 ((rd_T41 l0 x10_1).f1).length c198_1, .bool ((rd_T41 l0 x10_1).f2), .slice A198_3 ((rd_T41 l0 x10_1).f3).length c198_3, .int .i64 ((rd_T41 l0 x10_1).f4)] 41 (0, 0)) (put5_ (bk_ BK199.out)) hb) (below_step (bl1_ HB.out GE199.out) hb) ?_; clear BK199 HB; intro BK199 HB; (try clear hb); (try clear hb2); (try clear hk); (try clear hi)))
      go_roundg k1
      case measure => have := HK1.out; omega
      case rel => exact ⟨(wrap64 (x3_1 + t200)), (wrap64 (x10_1 + 1)), sr_, sr_, H', ⟨by have := HK1.out; omega⟩, ⟨bl1_ HB.out GE199.out⟩⟩
     ·
      rw [if_neg c4] at H
      exact absurd H (by simp)
    ·
     rw [if_neg c3] at H
     exact absurd H (by simp)
   ·
    rw [if_neg c2] at H
    have c2b0 := decide_eq_false c2
    clear c2
    obtain rfl := Option.some.inj H
    go_wp2
    go_ret
    exact ⟨er_, bl_ HB.out⟩
end Go.Proofs.YtkifdadhojbohaaDoor.Pr
namespace Go.Proofs.YtkifdadhojbohaaDoor.Pu
open Go.RowKit Go.Proofs.YtkifdadhojbohaaDoor Go.Proofs.YtkifdadhojbohaaDoor.Pr Go.Proofs.YtkifdadhojbohaaDoorW.PrintWords Go.Proofs.YtkifdadhojbohaaDoorW.PrintLast Go.Proofs.YtkifdadhojbohaaDoorW.PrintMore
theorem size_kids (c : S41) (l : List S41) : SizeOf.sizeOf c.f3 < SizeOf.sizeOf (c :: l) := by
  cases c; simp; omega
theorem size_tail (c : S41) (l : List S41) : SizeOf.sizeOf l < SizeOf.sizeOf (c :: l) := by
  simp; omega
theorem indL {P : List S41 → Prop} (h0 : P []) (h1 : ∀ c l, P c.f3 → P l → P (c :: l)) : ∀ l, P l := by
  have key : ∀ n, ∀ l : List S41, SizeOf.sizeOf l < n → P l := by
    intro n
    induction n with
    | zero => intro l h; omega
    | succ n ih =>
      intro l h
      cases l with
      | nil => exact h0
      | cons c l => exact h1 c l (ih _ (by have := size_kids c l; omega)) (ih _ (by have := size_tail c l; omega))
  exact fun l => key (SizeOf.sizeOf l + 1) l (by omega)
/-- The depth. -/
def depL : List S41 → Nat
  | [] => 0
  | c :: l => max (if c.f2 = true then 1 + depL c.f3 else 0) (depL l)
termination_by l => SizeOf.sizeOf l
decreasing_by
  · exact size_kids c l
  · exact size_tail c l
/-- The number of entries and atoms. -/
def szL : List S41 → Nat
  | [] => 0
  | c :: l => 1 + c.f1.length + szL c.f3 + szL l
termination_by l => SizeOf.sizeOf l
decreasing_by
  · exact size_kids c l
  · exact size_tail c l
def okA (t : S46) : Bool := isA t && validB t.f0 (lst t.f1) t.f2
/-- Words, atoms and blocks are possible. -/
def formL : List S41 → Bool
  | [] => true
  | c :: l => validB 1 (lst c.f0) 0 && (c.f2 || c.f3.isEmpty) && c.f1.all okA && formL c.f3 && formL l
termination_by l => SizeOf.sizeOf l
decreasing_by
  · exact size_kids c l
  · exact size_tail c l
def sgT (b : UInt8) : S46 := ⟨4, (⟨#[b]⟩ : ByteArray), 0, 0⟩
/-- The tokens. -/
def toksL : List S41 → List S46
  | [] => []
  | c :: l => ⟨1, c.f0, 0, 0⟩ :: c.f1 ++ (if c.f2 = true then sgT 123 :: toksL c.f3 ++ [sgT 125] else [sgT 59]) ++ toksL l
termination_by l => SizeOf.sizeOf l
decreasing_by
  · exact size_kids c l
  · exact size_tail c l
/-- All entries, those in blocks included, have the property. -/
inductive AllC (P : S41 → Prop) : List S41 → Prop
  | nil : AllC P []
  | cons (c : S41) (l : List S41) : P c → AllC P c.f3 → AllC P l → AllC P (c :: l)
/-- Texts of at most n bytes. -/
def txt (n : Nat) (c : S41) : Prop := c.f0.size ≤ n ∧ ∀ a ∈ c.f1, a.f1.size ≤ n
theorem dep_le : ∀ l, depL l ≤ szL l := by
  refine indL (by simp [depL]) ?_
  intro c l h1 h2
  rw [depL, szL]
  split <;> omega
theorem len_le : ∀ l : List S41, l.length ≤ szL l := by
  refine indL (by simp) ?_
  intro c l h1 h2
  rw [szL, List.length_cons]
  omega
theorem toks_le : ∀ l, (toksL l).length ≤ 3 * szL l := by
  refine indL (by simp [toksL]) ?_
  intro c l h1 h2
  rw [toksL, szL]
  split <;> simp <;> omega
theorem sz_append (a b : List S41) : szL (a ++ b) = szL a + szL b := by
  induction a with
  | nil => simp [szL]
  | cons c a ih => rw [List.cons_append, szL, szL, ih]; omega
theorem dep_append (a b : List S41) : depL (a ++ b) = max (depL a) (depL b) := by
  induction a with
  | nil => simp [depL]
  | cons c a ih => rw [List.cons_append, depL, depL, ih]; omega
theorem form_append (a b : List S41) : formL (a ++ b) = (formL a && formL b) := by
  induction a with
  | nil => simp [formL]
  | cons c a ih => rw [List.cons_append, formL, formL, ih]; simp [Bool.and_assoc]
theorem mx_nat (a b : Nat) : mx (a : Int) (b : Int) = ((max a b : Nat) : Int) := by
  unfold mx
  split <;> omega
theorem Depth_f : ∀ l, szL l ≤ 900000 → Ev (fun k => parser_Depth.f k l) (depL l : Int) := by
  have loop : ∀ l, szL l ≤ 900000 → ∀ (A : List S41) (i m : Nat), A.drop i = l → A.length ≤ 900000 → m ≤ 900000 → i ≤ A.length → Ev (fun k => parser_Depth.l0 k (m : Int) A (A.length : Int) (i : Int)) ((max m (depL l) : Nat) : Int) := by
    refine indL ?_ ?_
    · intro _ A i m hA hn hm hi
      have : A.length ≤ i := by
        have := congrArg List.length hA
        rw [List.length_drop] at this
        simp at this; omega
      refine Ev.succ ?_
      simp only [parser_Depth.l0]
      exact Ev.ifn (by omega) (Ev.ret (by simp [depL]))
    · intro c l h1 h2 hs A i m hA hn hm hi
      rw [szL] at hs
      obtain ⟨a1, a2, a3⟩ := rd41_at hA
      have hd := dep_le c.f3
      have hc := len_le c.f3
      refine Ev.succ ?_
      simp only [parser_Depth.l0, a2]
      rw [wrap_nat i (by omega)]
      refine Ev.ifp (by omega) (Ev.ifp natO (Ev.ifp (by omega) ?_))
      by_cases hb : c.f2 = true
      · refine Ev.ifp hb (Ev.bind (a := ((depL c.f3 : Nat) : Int)) ?_ ?_)
        · refine Ev.succ ?_
          simp only [parser_Depth.f]
          simpa using h1 (by omega) c.f3 0 0 rfl (by omega) (by omega) (by omega)
        · have e : wrap64 (1 + ((depL c.f3 : Nat) : Int)) = ((1 + depL c.f3 : Nat) : Int) := by rw [wrap64_of (by omega) (by omega)]; omega
          rw [e, mx_nat]
          have := h2 (by omega) A (i + 1) (max m (1 + depL c.f3)) a3 hn (by omega) (by omega)
          rw [depL, if_pos hb]
          rwa [← Nat.max_assoc]
      · refine Ev.ifn hb ?_
        have := h2 (by omega) A (i + 1) m a3 hn (by omega) (by omega)
        rw [depL, if_neg hb]
        simpa using this
  intro l hl
  have := len_le l
  refine Ev.succ ?_
  simp only [parser_Depth.f]
  simpa using loop l hl l 0 0 rfl (by omega) (by omega) (by omega)
def chkL (l : List S41) : Int := if formL l = true then (if 8 < depL l then 6 else 0) else 2
theorem RL.facts {o : Nat} {ts : List S46} {x : Ans} (h : RL o ts x) : o ≤ 8 → ∀ cs r, x = .ok (cs, r) → szL cs + r.length ≤ ts.length ∧ depL cs + o ≤ 8 ∧ (toksL cs).length + r.length = ts.length := by
  induction h with
  | stop o t r => intro ho cs r' hx; cases hx; simp [szL, depL, toksL]; exact ho
  | bad => intro _ cs r hx; cases hx
  | semi o t ats u r x h1 h2 h3 hr ih =>
    intro ho cs q hx
    cases x with
    | error e => cases hx
    | ok y =>
      cases hx
      obtain ⟨g1, g2, g3⟩ := ih ho _ _ rfl
      rw [szL, depL, toksL]
      simp [szL]
      omega
  | syn => intro _ cs r hx; cases hx
  | lim => intro _ cs r hx; cases hx
  | blk o t ats u r ks b q x ho h1 h2 h3 hk hr ihk ih =>
    intro ho' cs q' hx
    cases x with
    | error e => cases hx
    | ok y =>
      cases hx
      obtain ⟨g1, g2, g3⟩ := ihk (by omega) _ _ rfl
      obtain ⟨k1, k2, k3⟩ := ih ho' _ _ rfl
      rw [szL, depL, toksL]
      simp at g1 g3 ⊢
      omega
  | blkF => intro _ cs r hx; cases hx
/-- What is read out of possible tokens is possible. -/
theorem RL.form {o : Nat} {ts : List S46} {x : Ans} (h : RL o ts x) : (∀ t ∈ ts, validB t.f0 (lst t.f1) t.f2 = true ∧ t.f1.size ≤ 900000) → ∀ cs r, x = .ok (cs, r) → formL cs = true ∧ AllC (txt 900000) cs := by
  have hword : ∀ t : S46, validB t.f0 (lst t.f1) t.f2 = true → t.f0 = 1 → validB 1 (lst t.f1) 0 = true := by
    intro t hv h1
    rw [h1] at hv
    by_cases hn : t.f2 = 0
    · rwa [hn] at hv
    · unfold validB at hv
      rw [if_pos ⟨by decide, hn⟩] at hv
      cases hv
  induction h with
  | stop => intro _ cs r hx; cases hx; exact ⟨by simp [formL], AllC.nil⟩
  | bad => intro _ cs r hx; cases hx
  | semi o t ats u r x h1 h2 h3 hr ih =>
    intro hv cs q hx
    cases x with
    | error e => cases hx
    | ok y =>
      cases hx
      obtain ⟨g1, g2⟩ := ih (fun a ha => hv a (by simp [ha])) _ _ rfl
      refine ⟨?_, AllC.cons _ _ ⟨(hv t (by simp)).2, fun a ha => (hv a (by simp [show a ∈ ats from ha])).2⟩ AllC.nil g2⟩
      rw [formL]
      have ha : ats.all okA = true := List.all_eq_true.2 (fun a ha => by simp [okA, h2 a ha, (hv a (by simp [ha])).1])
      simp [hword t (hv t (by simp)).1 h1, g1, formL]
      simpa using ha
  | syn => intro _ cs r hx; cases hx
  | lim => intro _ cs r hx; cases hx
  | blk o t ats u r ks b q x ho h1 h2 h3 hk hr ihk ih =>
    intro hv cs q' hx
    cases x with
    | error e => cases hx
    | ok y =>
      cases hx
      obtain ⟨g1, g2⟩ := ihk (fun a ha => hv a (by simp [ha])) _ _ rfl
      obtain ⟨b', q0, pk, f1, f2, f3, f4, f5⟩ := hk.frame _ _ rfl
      obtain ⟨k1, k2⟩ := ih (fun a ha => hv a (by rw [f4]; simp [ha])) _ _ rfl
      refine ⟨?_, AllC.cons _ _ ⟨(hv t (by simp)).2, fun a ha => (hv a (by simp [show a ∈ ats from ha])).2⟩ g2 k2⟩
      rw [formL]
      have ha : ats.all okA = true := List.all_eq_true.2 (fun a ha => by simp [okA, h2 a ha, (hv a (by simp [ha])).1])
      simp [hword t (hv t (by simp)).1 h1, g1, k1]
      simpa using ha
  | blkF => intro _ cs r hx; cases hx
end Go.Proofs.YtkifdadhojbohaaDoor.Pu
namespace Go.Proofs.YtkifdadhojbohaaDoor.Pr
open Go.Proofs.YtkifdadhojbohaaDoor
open Go.RowKit Go.Proofs.YtkifdadhojbohaaDoorW.PrintWords Go.Proofs.YtkifdadhojbohaaDoorW.PrintLast Go.Proofs.YtkifdadhojbohaaDoorW.PrintMore
set_option linter.unusedVariables false
set_option linter.unusedSimpArgs false
/-- Parse. -/
def parser_Parse.f (k : Nat) (a0 : ByteArray) : Option ((List (S41)) × Int × Int) := (lexer_Lex.f k a0).bind fun b => (if b.2.1 = 0 then ((parser_entries.f k b.1 0 0 0 0).bind fun e => (if e.2.2.1 = 0 then (some (e.1, 0, 0)) else (some (([] : List (S41)), e.2.2.1, e.2.2.2)))) else (some (([] : List (S41)), b.2.1, b.2.2)))
theorem parser_Parse.mono : ∀ a0 k, LeO (parser_Parse.f k a0) (parser_Parse.f (k + 1) a0) := by
 intro a0 k
 unfold parser_Parse.f
 repeat' first
  | exact lexer_Lex.mono _ _
  | exact parser_entries.mono _ _ _ _ _ _
  | exact LeO.refl _
  | exact LeO.none _
  | refine LeO.ite ?_ ?_
  | refine LeO.bind ?_ (fun _ => ?_)
set_option maxHeartbeats 8000000 in
set_option maxRecDepth 100000 in
theorem parser_Parse.calls (k : Nat) (a0 : ByteArray) (r1 : List (S41)) (r2 : Int) (r3 : Int) (w : World) (h : parser_Parse.f k a0 = some (r1, r2, r3)) :
  Calls Tryd.prog 22 #[.string a0] w fun e w' => ∃ v0_ : Value, e = .returned (.tuple #[v0_, .agg #[.int .i64 r2, .int .i64 r3]]) ∧ Kd.R k41 41 w' w.heap.size (fun _ => True) v0_ r1 ∧ Below w.heap.size w w' := by
 have hu26 := Tryd.underlying26
 have hu41 := Tryd.underlying41
 have hu69 := Tryd.underlying69
 have HB := Aside0.mk (Below.refl w.heap.size w)
 have H : ((lexer_Lex.f k a0).bind fun b => (if b.2.1 = 0 then ((parser_entries.f k b.1 0 0 0 0).bind fun e => (if e.2.2.1 = 0 then (some (e.1, 0, 0)) else (some (([] : List (S41)), e.2.2.1, e.2.2.2)))) else (some (([] : List (S41)), b.2.1, b.2.2)))) = some (r1, r2, r3) := h
 clear h
 replace H := Option.bind_eq_some_iff.mp H
 obtain ⟨⟨t1, t2, t3⟩, A20, H⟩ := H
 (try dsimp only at H)
 have A2 := Aside0.mk A20
 clear A20
 by_cases c3 : t2 = 0
 ·
  rw [if_pos c3] at H
  have c3b0 := beq_iff_eq.mpr c3
  have c3b1 := bne_eq_false_iff_eq.mpr c3
  clear c3
  replace H := Option.bind_eq_some_iff.mp H
  obtain ⟨⟨e1, e2, e3, e4⟩, A30, H⟩ := H
  (try dsimp only at H)
  have A3 := Aside0.mk A30
  clear A30
  by_cases c4 : e3 = 0
  ·
   rw [if_pos c4] at H
   have c4b0 := beq_iff_eq.mpr c4
   have c4b1 := bne_eq_false_iff_eq.mpr c4
   clear c4
   simp only [Option.some.injEq, Prod.mk.injEq] at H
   obtain ⟨rfl, rfl, rfl⟩ := H
   go_enter Tryd.func22, Tryd.ntmps22
   try go_wp2_with (first | ((with_reducible refine gate_dst (N := 3) rfl ?_); refine bx_ (N := 3) (cs := #[.int .i64 0, .int .i64 0]) (t := 26) ?_; intro gb3 hg w4 hbox hb; have n0_ := Aside0.mk (below_step (bl_ HB.out) hb); have n1_ := Aside0.mk (hbox); have n3_ := Aside0.mk (bz_ (w := w) hg (bl_ HB.out)); clear HB; have HB := n0_; have BK3 := n1_; have GE3 := n3_; clear n0_ n1_ n3_; clear hb hbox hg) | ((with_reducible refine gate_callee (f := 25) rfl ?_); refine goesL_ (some 10) rfl rfl Tryd.func25 (by kernel_rfl) rfl #[.string a0] rfl ga_ ?_; (with_reducible refine (lexer_Lex.calls k a0 t1 t2 t3 _ A2.out).mono ?_); rintro e w5 ⟨v1, rfl, ho0, hb⟩; refine ⟨_, rfl, ?_⟩; refine cut3_ (Kd.R_lower ho0 (below_size (bl1_ HB.out GE3.out))) (bb_ BK3.out hb) (below_step (bl1_ HB.out GE3.out) hb) ?_; clear BK3 HB; intro HO1 BK3 HB; (try clear hb); (try clear ho0)) | ((with_reducible refine gate_dst (N := 5) rfl ?_); refine bx_ (N := 5) (cs := #[.int .i64 0, .int .i64 0]) (t := 26) ?_; intro gb5 hg w55 hbox hb; have n0_ := Aside0.mk (Kd.R_below (rR_ HO1.out) hb); have n1_ := Aside0.mk (bb_ BK3.out hb); have n2_ := Aside0.mk (below_step (bl1_ HB.out GE3.out) hb); have n3_ := Aside0.mk (hbox); have n5_ := Aside0.mk (bz_ (w := w) hg (bl1_ HB.out GE3.out)); have n6_ := Aside0.mk (nl_ hg BK3.out); have n7_ := Aside0.mk (ng_ hg BK3.out); clear HO1; clear BK3; clear HB; have HO1 := n0_; have BK3 := n1_; have HB := n2_; have BK5 := n3_; have GE5 := n5_; have NB3_5 := n6_; have NB5_3 := n7_; clear n0_ n1_ n2_ n3_ n5_ n6_ n7_; clear hb hbox hg; have hnb56 := NB5_3.out; have hnc56 := NB3_5.out; obtain ⟨hcz57_0, hcz57_1, hfz57_0, hfz57_1⟩ := cq2_ BK5.out) | ((with_reducible refine gate_store (t := 26) (p := 5) rfl ?_); refine store_event (t := 26) (p := 5) (v := ?vo_w58) (w1 := ((w55.setCell ⟨gb5, 0, none⟩ (.int .i64 t2)).setCell ⟨gb5, 1, none⟩ (.int .i64 t3))) ?hg ?ho ?hn ?hr ?_; (case ho => rfl); (case hg => rfl); (case hn => rfl); (case hr => first | (go_simp; done) | (go_simp; rfl)); intro w58 hw; have n0_ : Aside0 (Kd.R k46 46 w58 w.heap.size (fun _ => True) v1 t1) := ⟨by rw [hw]; exact Kd.R_mono (Kd.R_far (p := ⟨gb5, 1, none⟩) (Kd.R_far (p := ⟨gb5, 0, none⟩) (Kd.R_types HO1.out BK5.out (by decide)) (fun _ hk => hk.2) (.int .i64 t2)) (fun _ hk => hk.2) (.int .i64 t3)) (fun _ hk => trivial)⟩; have n1_ : Aside0 (w58.heap[gb3]? = some (.cells #[.int .i64 0, .int .i64 0] 26 (0, 0))) := ⟨by rw [hw]; refine far2_ ?_ NB3_5.out; exact BK3.out⟩; have n2_ : Aside0 (w58.heap[gb5]? = some (.cells #[.int .i64 t2, .int .i64 t3] 26 (0, 0))) := ⟨by rw [hw]; refine blk_put (cs := #[.int .i64 t2, .int .i64 0]) ?_ 1 _ rfl; refine blk_put (cs := #[.int .i64 0, .int .i64 0]) ?_ 0 _ rfl; exact BK5.out⟩; have n3_ : Aside0 (Below w.heap.size w w58) := ⟨by rw [hw]; repeat (first | (with_reducible first | exact HB.out | refine below_set ?_ GE3.out | refine below_set ?_ GE5.out) | exact HB.out)⟩; clear hw; clear HO1 BK3 BK5 HB; (try clear hcz57_0 hcz57_1 hfz57_0 hfz57_1); have HO1 := n0_; have BK3 := n1_; have BK5 := n2_; have HB := n3_; clear n0_ n1_ n2_ n3_; have hl5_0 : w58.cell? ⟨gb5, 0, none⟩ = some (.int .i64 t2) := (blk_cell BK5.out 0).trans rfl; have hl5_1 : w58.cell? ⟨gb5, 1, none⟩ = some (.int .i64 t3) := (blk_cell BK5.out 1).trans rfl; obtain ⟨Ao, co, eo⟩ := Kd.R_slice HO1.out; subst eo; have HC := Aside0.mk (Kd.R_reads' HO1.out).2.2; have HB58 := HB) | ((with_reducible refine gate_dst (N := 19) rfl ?_); refine bx_ (N := 19) (cs := #[.slice Ao t1.length co, .int .i64 0, .int .i64 0, .int .i64 0]) (t := 69) ?_; intro g hg w60 hbox hb; have n1_ := Aside0.mk (blk_below (g := gb3) (o := .cells #[.int .i64 0, .int .i64 0] 26 (0, 0)) BK3.out hb); have n2_ := Aside0.mk (below_step HB.out hb); have n3_ : Aside0 (IsS69 w58 w60 g t1 0 0 0) := ⟨⟨Ao, co, hbox, Nat.le_of_eq hg.symm, HC.out⟩⟩; have n4_ : Aside0 (Below w58.heap.size w58 w60) := ⟨hb⟩; have n5_ : Aside0 (w.heap.size ≤ g) := ⟨by rw [hg]; exact below_size HB.out⟩; have n6_ : Aside0 (g ≠ gb3) := ⟨by rw [hg]; exact Nat.ne_of_gt (blk_lt BK3.out)⟩; clear BK3 HB; have BK3 := n1_; have HB := n2_; have HI := n3_; have HB0 := n4_; have GEg := n5_; have NBg_3 := n6_; clear n1_ n2_ n3_ n4_ n5_ n6_; clear hb hbox hg) | ((with_reducible refine gate_callee (f := 52) rfl ?_); refine goesL_ (some 21) rfl rfl Tryd.func52 (by kernel_rfl) rfl #[.pointer (some ⟨g, 0, none⟩), .int .i64 0] rfl ga_ ?_; (with_reducible refine (parser_entries.calls k g t1 0 0 0 0 e1 e2 e3 e4 w58 _ HI.out HB0.out A3.out).mono ?_); rintro e w61 ⟨v2, rfl, ho0, hi, hb2, hk⟩; refine ⟨_, rfl, ?_⟩; have n0_ := Aside0.mk (Kd.R_lower ho0 (below_size HB.out)); have n1_ := Aside0.mk (KeepBut.blk hk (g' := gb3) (o := .cells #[.int .i64 0, .int .i64 0] 26 (0, 0)) BK3.out NBg_3.out.symm (by simp)); have n2_ := Aside0.mk (below_step HB58.out hb2); have n3_ := Aside0.mk hi; clear BK3 HB HI HB0; have HO2 := n0_; have BK3 := n1_; have HB := n2_; have HI := n3_; clear n0_ n1_ n2_ n3_; obtain ⟨Aq, cq, hgq, hleq, hCq⟩ := HI.out; have hcq_2 : w61.cell? ⟨g, 2, none⟩ = some (.int .i64 e3) := cellS69_2 hgq; have hcq_3 : w61.cell? ⟨g, 3, none⟩ = some (.int .i64 e4) := cellS69_3 hgq; have hcb_0 : w61.cell? ⟨gb3, 0, none⟩ = some (.int .i64 0) := (blk_cell BK3.out 0).trans rfl; have hcb_1 : w61.cell? ⟨gb3, 1, none⟩ = some (.int .i64 0) := (blk_cell BK3.out 1).trans rfl; have hfb_0 := blk_frozen BK3.out 0; have hfb_1 := blk_frozen BK3.out 1; clear hgq hleq hCq ho0 hi hb2 hk))
   refine bodyPost_ret (results_tc rfl _ _ gb3 26 #[.int .i64 0, .int .i64 0] (0, 0) _ rfl (by exact put2_ (bk_ BK3.out)) Tryd.underlying26 rfl (by kernel_rfl)) rfl ?_
   exact ⟨_, er_, by exact Kd.R_mono (Kd.R_far (p := ⟨gb3, 1, none⟩) (Kd.R_far (p := ⟨gb3, 0, none⟩) (Kd.R_types HO2.out BK3.out (by decide)) (fun _ hk => hk.2) (.int .i64 0)) (fun _ hk => hk.2) (.int .i64 0)) (fun _ hk => trivial), bl1_ HB.out GE3.out⟩
  ·
   rw [if_neg c4] at H
   have c4b0 := beq_eq_false_iff_ne.mpr c4
   have c4b1 := bne_iff_ne.mpr c4
   simp only [Option.some.injEq, Prod.mk.injEq] at H
   obtain ⟨rfl, rfl, rfl⟩ := H
   go_enter Tryd.func22, Tryd.ntmps22
   try go_wp2_with (first | ((with_reducible refine gate_dst (N := 3) rfl ?_); refine bx_ (N := 3) (cs := #[.int .i64 0, .int .i64 0]) (t := 26) ?_; intro gb3 hg w4 hbox hb; have n0_ := Aside0.mk (below_step (bl_ HB.out) hb); have n1_ := Aside0.mk (hbox); have n3_ := Aside0.mk (bz_ (w := w) hg (bl_ HB.out)); clear HB; have HB := n0_; have BK3 := n1_; have GE3 := n3_; clear n0_ n1_ n3_; clear hb hbox hg) | ((with_reducible refine gate_callee (f := 25) rfl ?_); refine goesL_ (some 10) rfl rfl Tryd.func25 (by kernel_rfl) rfl #[.string a0] rfl ga_ ?_; (with_reducible refine (lexer_Lex.calls k a0 t1 t2 t3 _ A2.out).mono ?_); rintro e w5 ⟨v1, rfl, ho0, hb⟩; refine ⟨_, rfl, ?_⟩; refine cut3_ (Kd.R_lower ho0 (below_size (bl1_ HB.out GE3.out))) (bb_ BK3.out hb) (below_step (bl1_ HB.out GE3.out) hb) ?_; clear BK3 HB; intro HO1 BK3 HB; (try clear hb); (try clear ho0)) | ((with_reducible refine gate_dst (N := 5) rfl ?_); refine bx_ (N := 5) (cs := #[.int .i64 0, .int .i64 0]) (t := 26) ?_; intro gb5 hg w55 hbox hb; have n0_ := Aside0.mk (Kd.R_below (rR_ HO1.out) hb); have n1_ := Aside0.mk (bb_ BK3.out hb); have n2_ := Aside0.mk (below_step (bl1_ HB.out GE3.out) hb); have n3_ := Aside0.mk (hbox); have n5_ := Aside0.mk (bz_ (w := w) hg (bl1_ HB.out GE3.out)); have n6_ := Aside0.mk (nl_ hg BK3.out); have n7_ := Aside0.mk (ng_ hg BK3.out); clear HO1; clear BK3; clear HB; have HO1 := n0_; have BK3 := n1_; have HB := n2_; have BK5 := n3_; have GE5 := n5_; have NB3_5 := n6_; have NB5_3 := n7_; clear n0_ n1_ n2_ n3_ n5_ n6_ n7_; clear hb hbox hg; have hnb56 := NB5_3.out; have hnc56 := NB3_5.out; obtain ⟨hcz57_0, hcz57_1, hfz57_0, hfz57_1⟩ := cq2_ BK5.out) | ((with_reducible refine gate_store (t := 26) (p := 5) rfl ?_); refine store_event (t := 26) (p := 5) (v := ?vo_w58) (w1 := ((w55.setCell ⟨gb5, 0, none⟩ (.int .i64 t2)).setCell ⟨gb5, 1, none⟩ (.int .i64 t3))) ?hg ?ho ?hn ?hr ?_; (case ho => rfl); (case hg => rfl); (case hn => rfl); (case hr => first | (go_simp; done) | (go_simp; rfl)); intro w58 hw; have n0_ : Aside0 (Kd.R k46 46 w58 w.heap.size (fun _ => True) v1 t1) := ⟨by rw [hw]; exact Kd.R_mono (Kd.R_far (p := ⟨gb5, 1, none⟩) (Kd.R_far (p := ⟨gb5, 0, none⟩) (Kd.R_types HO1.out BK5.out (by decide)) (fun _ hk => hk.2) (.int .i64 t2)) (fun _ hk => hk.2) (.int .i64 t3)) (fun _ hk => trivial)⟩; have n1_ : Aside0 (w58.heap[gb3]? = some (.cells #[.int .i64 0, .int .i64 0] 26 (0, 0))) := ⟨by rw [hw]; refine far2_ ?_ NB3_5.out; exact BK3.out⟩; have n2_ : Aside0 (w58.heap[gb5]? = some (.cells #[.int .i64 t2, .int .i64 t3] 26 (0, 0))) := ⟨by rw [hw]; refine blk_put (cs := #[.int .i64 t2, .int .i64 0]) ?_ 1 _ rfl; refine blk_put (cs := #[.int .i64 0, .int .i64 0]) ?_ 0 _ rfl; exact BK5.out⟩; have n3_ : Aside0 (Below w.heap.size w w58) := ⟨by rw [hw]; repeat (first | (with_reducible first | exact HB.out | refine below_set ?_ GE3.out | refine below_set ?_ GE5.out) | exact HB.out)⟩; clear hw; clear HO1 BK3 BK5 HB; (try clear hcz57_0 hcz57_1 hfz57_0 hfz57_1); have HO1 := n0_; have BK3 := n1_; have BK5 := n2_; have HB := n3_; clear n0_ n1_ n2_ n3_; have hl5_0 : w58.cell? ⟨gb5, 0, none⟩ = some (.int .i64 t2) := (blk_cell BK5.out 0).trans rfl; have hl5_1 : w58.cell? ⟨gb5, 1, none⟩ = some (.int .i64 t3) := (blk_cell BK5.out 1).trans rfl; obtain ⟨Ao, co, eo⟩ := Kd.R_slice HO1.out; subst eo; have HC := Aside0.mk (Kd.R_reads' HO1.out).2.2; have HB58 := HB) | ((with_reducible refine gate_dst (N := 19) rfl ?_); refine bx_ (N := 19) (cs := #[.slice Ao t1.length co, .int .i64 0, .int .i64 0, .int .i64 0]) (t := 69) ?_; intro g hg w60 hbox hb; have n1_ := Aside0.mk (blk_below (g := gb3) (o := .cells #[.int .i64 0, .int .i64 0] 26 (0, 0)) BK3.out hb); have n2_ := Aside0.mk (below_step HB.out hb); have n3_ : Aside0 (IsS69 w58 w60 g t1 0 0 0) := ⟨⟨Ao, co, hbox, Nat.le_of_eq hg.symm, HC.out⟩⟩; have n4_ : Aside0 (Below w58.heap.size w58 w60) := ⟨hb⟩; have n5_ : Aside0 (w.heap.size ≤ g) := ⟨by rw [hg]; exact below_size HB.out⟩; have n6_ : Aside0 (g ≠ gb3) := ⟨by rw [hg]; exact Nat.ne_of_gt (blk_lt BK3.out)⟩; clear BK3 HB; have BK3 := n1_; have HB := n2_; have HI := n3_; have HB0 := n4_; have GEg := n5_; have NBg_3 := n6_; clear n1_ n2_ n3_ n4_ n5_ n6_; clear hb hbox hg) | ((with_reducible refine gate_callee (f := 52) rfl ?_); refine goesL_ (some 21) rfl rfl Tryd.func52 (by kernel_rfl) rfl #[.pointer (some ⟨g, 0, none⟩), .int .i64 0] rfl ga_ ?_; (with_reducible refine (parser_entries.calls k g t1 0 0 0 0 e1 e2 e3 e4 w58 _ HI.out HB0.out A3.out).mono ?_); rintro e w61 ⟨v2, rfl, ho0, hi, hb2, hk⟩; refine ⟨_, rfl, ?_⟩; have n0_ := Aside0.mk (Kd.R_lower ho0 (below_size HB.out)); have n1_ := Aside0.mk (KeepBut.blk hk (g' := gb3) (o := .cells #[.int .i64 0, .int .i64 0] 26 (0, 0)) BK3.out NBg_3.out.symm (by simp)); have n2_ := Aside0.mk (below_step HB58.out hb2); have n3_ := Aside0.mk hi; clear BK3 HB HI HB0; have HO2 := n0_; have BK3 := n1_; have HB := n2_; have HI := n3_; clear n0_ n1_ n2_ n3_; obtain ⟨Aq, cq, hgq, hleq, hCq⟩ := HI.out; have hcq_2 : w61.cell? ⟨g, 2, none⟩ = some (.int .i64 e3) := cellS69_2 hgq; have hcq_3 : w61.cell? ⟨g, 3, none⟩ = some (.int .i64 e4) := cellS69_3 hgq; have hcb_0 : w61.cell? ⟨gb3, 0, none⟩ = some (.int .i64 0) := (blk_cell BK3.out 0).trans rfl; have hcb_1 : w61.cell? ⟨gb3, 1, none⟩ = some (.int .i64 0) := (blk_cell BK3.out 1).trans rfl; have hfb_0 := blk_frozen BK3.out 0; have hfb_1 := blk_frozen BK3.out 1; clear hgq hleq hCq ho0 hi hb2 hk))
   refine cut3_ (blk_drew BK3.out) (IsS69.drew HI.out) (below_drew1 HB.out) ?_
   clear BK3 HI HB hcq_2 hcq_3 hcb_0 hcb_1 hfb_0 hfb_1
   intro BK3 HI HB
   obtain ⟨Aq, cq, hgq, hleq, hCq⟩ := HI.out
   refine start_ (n := 6) (S := fun w' => w'.cell? ⟨g, 2, none⟩ = some (.int .i64 e3) ∧ w'.cell? ⟨g, 3, none⟩ = some (.int .i64 e4)) (ds := []) #[false, false, false, false, false, false] (by kernel_rfl) rfl rfl ⟨cellS69_2 hgq, cellS69_3 hgq⟩ (fun hHeld => ?_)
   clear hgq hleq hCq
   generalize w61.drew = w62 at BK3 HI HB hHeld ⊢
   refine pr_ (i := 4) (N := some 2) #[false, false, false, false, true, false] (by kernel_rfl) ?_
   refine pr_ (i := 0) (N := some 28) #[true, false, false, false, true, false] (by kernel_rfl) ?_
   refine pr_ (i := 1) (N := some 29) #[true, true, false, false, true, false] (by kernel_rfl) ?_
   refine pr_ (i := 2) (N := some 30) #[true, true, true, false, true, false] (by kernel_rfl) ?_
   refine take_ (i := 3) (N := some 31) (v := ?_) (a' := ?_) #[true, true, true, true, true, false] rfl rfl (by kernel_rfl) (fun _ _ _ h => h) (Or.inl ⟨by rfl, ?_⟩) hHeld ?_ ?_
   rotate_left
   ·
    rintro w' ⟨s0, s1⟩
    go_simp
    with_reducible rfl
   rotate_left
   ·
    simp only [Act.put, List.setIfInBounds_toArray, List.set_cons_zero, List.set_cons_succ, i64_w, i32_w]
    rfl
   refine one_ (i := 5) (N := none) #[true, true, true, true, true, true] rfl rfl (by kernel_rfl) (by decide) (fun K hK => ?_)
   have hs60 : w62.cell? ⟨gb3, 0, none⟩ = some (.int .i64 0) := (blk_cell BK3.out 0).trans rfl
   have hfs60 := blk_frozen BK3.out 0
   have hs61 : w62.cell? ⟨gb3, 1, none⟩ = some (.int .i64 0) := (blk_cell BK3.out 1).trans rfl
   have hfs61 := blk_frozen BK3.out 1
   refine skip_ (w1 := ?_) (by rfl) rfl ?_ ?_
   rotate_left
   ·
    go_simp
    rfl
   refine hK.out _ _ ⟨(cf2_ gb3 NBg_3.out hHeld.1), (cf2_ gb3 NBg_3.out hHeld.2)⟩ (fun hHeld => ?_)
   clear hK K
   refine done_ (by kernel_rfl) ?_
   try go_wp2
   refine bodyPost_ret (results_tc rfl _ _ gb3 26 #[.int .i64 e3, .int .i64 e4] (0, 0) _ rfl (by exact put2_ (bk_ BK3.out)) Tryd.underlying26 rfl (by kernel_rfl)) rfl ?_
   exact ⟨_, er_, by exact Kd.R_nil _ _ _ _ _, bl1_ HB.out GE3.out⟩
 ·
  rw [if_neg c3] at H
  have c3b0 := beq_eq_false_iff_ne.mpr c3
  have c3b1 := bne_iff_ne.mpr c3
  simp only [Option.some.injEq, Prod.mk.injEq] at H
  obtain ⟨rfl, rfl, rfl⟩ := H
  go_enter Tryd.func22, Tryd.ntmps22
  try go_wp2_with (first | ((with_reducible refine gate_dst (N := 3) rfl ?_); refine bx_ (N := 3) (cs := #[.int .i64 0, .int .i64 0]) (t := 26) ?_; intro gb3 hg w4 hbox hb; have n0_ := Aside0.mk (below_step (bl_ HB.out) hb); have n1_ := Aside0.mk (hbox); have n3_ := Aside0.mk (bz_ (w := w) hg (bl_ HB.out)); clear HB; have HB := n0_; have BK3 := n1_; have GE3 := n3_; clear n0_ n1_ n3_; clear hb hbox hg) | ((with_reducible refine gate_callee (f := 25) rfl ?_); refine goesL_ (some 10) rfl rfl Tryd.func25 (by kernel_rfl) rfl #[.string a0] rfl ga_ ?_; (with_reducible refine (lexer_Lex.calls k a0 t1 t2 t3 _ A2.out).mono ?_); rintro e w5 ⟨v1, rfl, ho0, hb⟩; refine ⟨_, rfl, ?_⟩; refine cut3_ (Kd.R_lower ho0 (below_size (bl1_ HB.out GE3.out))) (bb_ BK3.out hb) (below_step (bl1_ HB.out GE3.out) hb) ?_; clear BK3 HB; intro HO1 BK3 HB; (try clear hb); (try clear ho0)) | ((with_reducible refine gate_dst (N := 5) rfl ?_); refine bx_ (N := 5) (cs := #[.int .i64 0, .int .i64 0]) (t := 26) ?_; intro gb5 hg w55 hbox hb; have n0_ := Aside0.mk (Kd.R_below (rR_ HO1.out) hb); have n1_ := Aside0.mk (bb_ BK3.out hb); have n2_ := Aside0.mk (below_step (bl1_ HB.out GE3.out) hb); have n3_ := Aside0.mk (hbox); have n5_ := Aside0.mk (bz_ (w := w) hg (bl1_ HB.out GE3.out)); have n6_ := Aside0.mk (nl_ hg BK3.out); have n7_ := Aside0.mk (ng_ hg BK3.out); clear HO1; clear BK3; clear HB; have HO1 := n0_; have BK3 := n1_; have HB := n2_; have BK5 := n3_; have GE5 := n5_; have NB3_5 := n6_; have NB5_3 := n7_; clear n0_ n1_ n2_ n3_ n5_ n6_ n7_; clear hb hbox hg; have hnb56 := NB5_3.out; have hnc56 := NB3_5.out; obtain ⟨hcz57_0, hcz57_1, hfz57_0, hfz57_1⟩ := cq2_ BK5.out))
  have n0_ : Aside0 (Kd.R k46 46 ((w55.setCell ⟨gb5, 0, none⟩ (.int .i64 t2)).setCell ⟨gb5, 1, none⟩ (.int .i64 t3)) w.heap.size (fun _ => True) v1 t1) := ⟨by (with_reducible repeat (first | apply Kd.R_alloc | apply Kd.R_drewN | apply Kd.R_drew)); exact Kd.R_mono (Kd.R_far (p := ⟨gb5, 1, none⟩) (Kd.R_far (p := ⟨gb5, 0, none⟩) (Kd.R_types HO1.out BK5.out (by decide)) (fun _ hk => hk.2) (.int .i64 t2)) (fun _ hk => hk.2) (.int .i64 t3)) (fun _ hk => trivial)⟩
  have n1_ : Aside0 (((w55.setCell ⟨gb5, 0, none⟩ (.int .i64 t2)).setCell ⟨gb5, 1, none⟩ (.int .i64 t3)).heap[gb3]? = some (.cells #[.int .i64 0, .int .i64 0] 26 (0, 0))) := ⟨by refine far2_ ?_ NB3_5.out; exact BK3.out⟩
  have n2_ : Aside0 (((w55.setCell ⟨gb5, 0, none⟩ (.int .i64 t2)).setCell ⟨gb5, 1, none⟩ (.int .i64 t3)).heap[gb5]? = some (.cells #[.int .i64 t2, .int .i64 t3] 26 (0, 0))) := ⟨by refine blk_put (cs := #[.int .i64 t2, .int .i64 0]) ?_ 1 _ rfl; refine blk_put (cs := #[.int .i64 0, .int .i64 0]) ?_ 0 _ rfl; exact BK5.out⟩
  have n3_ : Aside0 (Below w.heap.size w ((w55.setCell ⟨gb5, 0, none⟩ (.int .i64 t2)).setCell ⟨gb5, 1, none⟩ (.int .i64 t3))) := ⟨by repeat (first | (with_reducible first | exact HB.out | refine below_set ?_ GE3.out | refine below_set ?_ GE5.out) | exact HB.out)⟩
  clear HO1 BK3 BK5 HB
  (try clear hcz57_0 hcz57_1 hfz57_0 hfz57_1)
  generalize ((w55.setCell ⟨gb5, 0, none⟩ (.int .i64 t2)).setCell ⟨gb5, 1, none⟩ (.int .i64 t3)) = w58 at n0_ n1_ n2_ n3_ ⊢
  have HO1 := n0_
  have BK3 := n1_
  have BK5 := n2_
  have HB := n3_
  clear n0_ n1_ n2_ n3_
  refine cut4_ (Kd.R_drew HO1.out) (blk_drew BK3.out) (blk_drew BK5.out) (below_drew1 HB.out) ?_
  clear HO1 BK3 BK5 HB
  intro HO1 BK3 BK5 HB
  refine start_ (n := 3) (S := fun w' => w'.cell? ⟨gb5, 0, none⟩ = some (.int .i64 t2) ∧ w'.cell? ⟨gb5, 1, none⟩ = some (.int .i64 t3)) (ds := []) #[false, false, false] (by kernel_rfl) rfl rfl ⟨(blk_cell BK5.out 0).trans rfl, (blk_cell BK5.out 1).trans rfl⟩ (fun hHeld => ?_)
  generalize w58.drew = w59 at HO1 BK3 BK5 HB hHeld ⊢
  refine pr_ (i := 1) (N := some 2) #[false, true, false] (by kernel_rfl) ?_
  refine take_ (i := 0) (N := some 16) (v := ?_) (a' := ?_) #[true, true, false] rfl rfl (by kernel_rfl) (fun _ _ _ h => h) (Or.inl ⟨by rfl, ?_⟩) hHeld ?_ ?_
  rotate_left
  ·
   rintro w' ⟨s0, s1⟩
   go_simp
   with_reducible rfl
  rotate_left
  ·
   simp only [Act.put, List.setIfInBounds_toArray, List.set_cons_zero, List.set_cons_succ, i64_w, i32_w]
   rfl
  refine one_ (i := 2) (N := none) #[true, true, true] rfl rfl (by kernel_rfl) (by decide) (fun K hK => ?_)
  have hs60 : w59.cell? ⟨gb3, 0, none⟩ = some (.int .i64 0) := (blk_cell BK3.out 0).trans rfl
  have hfs60 := blk_frozen BK3.out 0
  have hns60_1 := NB5_3.out
  have hms60_1 := NB3_5.out
  have hs61 : w59.cell? ⟨gb3, 1, none⟩ = some (.int .i64 0) := (blk_cell BK3.out 1).trans rfl
  have hfs61 := blk_frozen BK3.out 1
  refine skip_ (w1 := ?_) (by rfl) rfl ?_ ?_
  rotate_left
  ·
   go_simp
   rfl
  refine hK.out _ _ ⟨(cf2_ gb3 NB5_3.out hHeld.1), (cf2_ gb3 NB5_3.out hHeld.2)⟩ (fun hHeld => ?_)
  clear hK K
  refine done_ (by kernel_rfl) ?_
  try go_wp2
  refine bodyPost_ret (results_tc rfl _ _ gb3 26 #[.int .i64 t2, .int .i64 t3] (0, 0) _ rfl (by exact put2_ (bk_ BK3.out)) Tryd.underlying26 rfl (by kernel_rfl)) rfl ?_
  exact ⟨_, er_, by exact Kd.R_nil _ _ _ _ _, bl2_ HB.out GE3.out GE5.out⟩
end Go.Proofs.YtkifdadhojbohaaDoor.Pr
namespace Go.Proofs.YtkifdadhojbohaaDoor.Pu
open Go.RowKit Go.Proofs.YtkifdadhojbohaaDoor Go.Proofs.YtkifdadhojbohaaDoor.Pr Go.Proofs.YtkifdadhojbohaaDoorW.PrintWords Go.Proofs.YtkifdadhojbohaaDoorW.PrintLast Go.Proofs.YtkifdadhojbohaaDoorW.PrintMore
theorem lexL_err : ∀ (f : Nat) (l : List UInt8) (e : Int × Nat), lexL f l = .error e → e.2 ≤ l.length := by
  intro f
  induction f with
  | zero => intro l e h; simp [lexL] at h
  | succ f ih =>
    intro l e h
    have hsk := (skipL_suffix l false).length_le
    simp only [lexL] at h
    by_cases hc : (tokL (skipL false l)).code = 0
    · rw [if_neg (by simp [hc])] at h
      by_cases h0 : skipL false l = []
      · rw [if_pos h0] at h; cases h
      · rw [if_neg h0] at h
        obtain ⟨h1, h2⟩ := tok_suffix (skipL false l) hc
        obtain ⟨h3, h4⟩ := h2 h0
        split at h
        · rename_i x hx
          have := ih _ _ hx
          cases h
          omega
        · cases h
    · rw [if_pos hc] at h
      cases h
      exact hsk
theorem lexL_code : ∀ (f : Nat) (l : List UInt8) (e : Int × Nat), lexL f l = .error e → e.1 ≠ 0 := by
  intro f
  induction f with
  | zero => intro l e h; simp [lexL] at h
  | succ f ih =>
    intro l e h
    simp only [lexL] at h
    by_cases hc : (tokL (skipL false l)).code = 0
    · have hc2 : ¬ (tokL (skipL false l)).code ≠ 0 := by simp [hc]
      rw [if_neg hc2] at h
      by_cases h0 : skipL false l = []
      · rw [if_pos h0] at h; cases h
      · rw [if_neg h0] at h
        split at h
        · rename_i x hx
          have := ih _ _ hx
          cases h
          exact this
        · cases h
    · rw [if_pos (show (tokL (skipL false l)).code ≠ 0 from hc)] at h
      cases h
      exact hc
/-- The token at the end. -/
abbrev endT : Tok := ⟨5, [], 0, 0⟩
theorem all_tw {α : Type} (p : α → Bool) (l : List α) : (l.takeWhile p).all p = true := List.all_takeWhile
/-- What is read as a token is a valid one, and not longer spelled than it stood, but for twelve bytes. -/
theorem tok_valid (l : List UInt8) (hc : (tokL l).code = 0) (hne : l ≠ []) : validB (tokL l).kind (tokL l).text (tokL l).n = true ∧ (tokL l).kind ≠ 5 ∧ (spellS (tokL l).kind (tokL l).text (tokL l).n).length + (tokL l).rest.length ≤ l.length + 12 := by
  cases l with
  | nil => exact absurd rfl hne
  | cons c l =>
    by_cases hr : isRunB c = true
    · have e : tokL (c :: l) = clsL (c :: l.takeWhile isRunB) (l.dropWhile isRunB) := by
        unfold tokL; dsimp only; rw [if_pos hr]
      have hlen : (l.takeWhile isRunB).length + (l.dropWhile isRunB).length = l.length := by
        rw [← List.length_append, List.takeWhile_append_dropWhile]
      rw [e] at hc ⊢
      have hall : (c :: l.takeWhile isRunB).all isRunB = true := by rw [List.all_cons, hr, all_tw]; rfl
      unfold clsL at hc ⊢
      by_cases h2 : (numL (c :: l.takeWhile isRunB)).2 = 2
      · rw [if_pos h2] at hc ⊢
        dsimp only at hc ⊢
        refine ⟨?_, by decide, ?_⟩
        · unfold validB
          rw [if_neg (by rintro ⟨_, h⟩; exact h rfl), if_pos rfl, hall, hc]; rfl
        · have : spellS 1 (c :: l.takeWhile isRunB) 0 = c :: l.takeWhile isRunB := by simp [spellS]
          rw [this, List.length_cons, List.length_cons]; omega
      · rw [if_neg h2] at hc ⊢
        dsimp only at hc ⊢
        have hn : 0 ≤ (numL (c :: l.takeWhile isRunB)).1 ∧ (numL (c :: l.takeWhile isRunB)).1 ≤ 1000000000 := by
          revert hc h2
          unfold numL
          dsimp only
          (repeat' split) <;> intro hc h2
          · exact absurd hc (by decide)
          · exact absurd hc (by decide)
          · exact absurd hc (by decide)
          · exact absurd hc (by decide)
          · dsimp only; omega
        refine ⟨?_, by decide, ?_⟩
        · unfold validB
          rw [if_neg (by rintro ⟨h, _⟩; exact h rfl), if_neg (by decide), if_pos rfl]
          simp [hn.1, hn.2]
        · have : spellS 2 [] (numL (c :: l.takeWhile isRunB)).1 = numS (numL (c :: l.takeWhile isRunB)).1.toNat := by
            unfold spellS
            rw [if_neg (by decide), if_pos rfl, if_pos hn]
          have hl := numS_len (numL (c :: l.takeWhile isRunB)).1.toNat (by omega)
          rw [this, List.length_cons]; omega
    · by_cases h34 : c.toNat = 34
      · have e : tokL (c :: l) = textL l := by
          unfold tokL; dsimp only; rw [if_neg hr, if_pos h34]
        rw [e] at hc ⊢
        unfold textL at hc ⊢
        have hlen : (l.takeWhile inStr).length + (l.dropWhile inStr).length = l.length := by
          rw [← List.length_append, List.takeWhile_append_dropWhile]
        cases hd : l.dropWhile inStr with
        | nil => rw [hd] at hc; cases hc
        | cons x r =>
          rw [hd] at hc hlen
          dsimp only at hc ⊢
          by_cases hx : x.toNat = 34
          · rw [if_pos hx] at hc ⊢
            dsimp only at hc ⊢
            refine ⟨?_, by decide, ?_⟩
            · unfold validB
              rw [if_neg (by rintro ⟨_, h⟩; exact h rfl), if_neg (by decide), if_neg (by decide), if_pos rfl, hc]; rfl
            · have : spellS 3 (l.takeWhile inStr) 0 = 34 :: l.takeWhile inStr ++ [34] := by simp [spellS]
              rw [this]
              simp only [List.length_append, List.length_cons, List.length_nil] at hlen ⊢
              omega
          · rw [if_neg hx] at hc; cases hc
      · by_cases h5 : kindOf c.toNat = 5
        · have e : tokL (c :: l) = ⟨4, [c], 0, l, 0⟩ := by
            unfold tokL; dsimp only; rw [if_neg hr, if_neg h34, if_pos h5]
          rw [e]
          dsimp only
          refine ⟨?_, by decide, ?_⟩
          · unfold validB
            rw [if_neg (by rintro ⟨_, h⟩; exact h rfl), if_neg (by decide), if_neg (by decide), if_neg (by decide), if_pos rfl]
            simp [h5]
          · have : spellS 4 [c] 0 = [c] := by simp [spellS]
            rw [this]; simp; omega
        · have e : tokL (c :: l) = ⟨0, [], 0, [], 2⟩ := by
            unfold tokL; dsimp only; rw [if_neg hr, if_neg h34, if_neg h5]
          rw [e] at hc; cases hc
/-- What a source is lexed to: valid tokens in order, the end at last, and not long when spelled. -/
theorem lex_good : ∀ (f : Nat) (l : List UInt8) (ts : List Tok), l.length < f → lexL f l = .ok ts →
    ∃ us : List Tok, ts = us ++ [endT] ∧ (∀ u ∈ us, validB u.kind u.text u.n = true ∧ u.kind ≠ 5 ∧ 0 < u.rem ∧ u.rem ≤ l.length ∧ u.text.length ≤ l.length) ∧ us.Pairwise (fun a b => b.rem < a.rem) ∧ us.length ≤ l.length ∧
      (us.map fun u => (spellS u.kind u.text u.n).length).sum ≤ l.length + 12 * us.length := by
  intro f
  induction f with
  | zero => intro l ts hf; omega
  | succ f ih =>
    intro l ts hf hx
    have hsk := (skipL_suffix l false).length_le
    simp only [lexL] at hx
    by_cases hc : (tokL (skipL false l)).code = 0
    · have hc2 : ¬ (tokL (skipL false l)).code ≠ 0 := by simp [hc]
      rw [if_neg hc2] at hx
      by_cases h0 : skipL false l = []
      · rw [if_pos h0] at hx
        cases hx
        exact ⟨[], rfl, by simp, by simp, by simp, by simp⟩
      · rw [if_neg h0] at hx
        obtain ⟨h1, h2⟩ := tok_suffix (skipL false l) hc
        obtain ⟨h3, h4⟩ := h2 h0
        obtain ⟨v1, v2, v3⟩ := tok_valid (skipL false l) hc h0
        generalize skipL false l = m at hsk h0 hx h1 h3 h4 v1 v2 v3 hc
        cases hy : lexL f (tokL m).rest with
        | error e => rw [hy] at hx; cases hx
        | ok ws =>
          rw [hy] at hx
          cases hx
          obtain ⟨us, rfl, g1, g2, g3, g4⟩ := ih _ _ (by omega) hy
          have htl : (tokL m).text.length ≤ m.length := by
            have := reads_of_valid v1 v2
            cases m with
            | nil => exact absurd rfl h0
            | cons c r =>
              unfold tokL
              dsimp only
              have hle1 : (r.takeWhile isRunB).length ≤ r.length := (List.takeWhile_prefix _).length_le
              have hle2 : (r.takeWhile inStr).length ≤ r.length := (List.takeWhile_prefix _).length_le
              (repeat' split)
              · unfold clsL; split <;> simp <;> omega
              · unfold textL
                split
                · simp
                · split <;> simp <;> omega
              · simp
              · simp
          refine ⟨⟨(tokL m).kind, (tokL m).text, (tokL m).n, m.length⟩ :: us, rfl, ?_, ?_, ?_, ?_⟩
          · intro u hu
            rcases List.mem_cons.1 hu with rfl | hu
            · exact ⟨v1, v2, List.length_pos_iff.2 h0, hsk, by dsimp only; omega⟩
            · obtain ⟨a1, a2, a3, a4, a5⟩ := g1 u hu
              exact ⟨a1, a2, a3, by omega, by omega⟩
          · refine List.pairwise_cons.2 ⟨fun b hb => ?_, g2⟩
            have := (g1 b hb).2.2.2.1
            dsimp only; omega
          · simp only [List.length_cons]; omega
          · simp only [List.map_cons, List.sum_cons, List.length_cons]
            omega
    · rw [if_pos (show (tokL (skipL false l)).code ≠ 0 from hc)] at hx
      cases hx
/-- The end of a source of n bytes. -/
abbrev endS (n : Nat) : S46 := Tok.at_ n ⟨5, [], 0, 0⟩
/-- What Parse answers for a source: a fault of its bytes, or of its tokens, or its entries. -/
inductive PA (s : ByteArray) : List S41 × Int × Int → Prop
  | byte (e : Int × Nat) : lexL (s.size + 1) (lst s) = .error e → PA s ([], e.1, (s.size : Int) - e.2)
  | tok (us : List Tok) (e : Int × Int) : lexL (s.size + 1) (lst s) = .ok (us ++ [endT]) → RL 0 (us.map (Tok.at_ s.size) ++ [endS s.size]) (.error e) → PA s ([], e.1, e.2)
  | good (us : List Tok) (cs : List S41) : lexL (s.size + 1) (lst s) = .ok (us ++ [endT]) → RL 0 (us.map (Tok.at_ s.size) ++ [endS s.size]) (.ok (cs, [endS s.size])) → PA s (cs, 0, 0)
theorem toks_good (s : ByteArray) {us : List Tok} (h : lexL (s.size + 1) (lst s) = .ok (us ++ [endT])) :
    (∀ u ∈ us, validB u.kind u.text u.n = true ∧ u.kind ≠ 5 ∧ 0 < u.rem ∧ u.rem ≤ s.size ∧ u.text.length ≤ s.size) ∧ us.Pairwise (fun a b => b.rem < a.rem) ∧ us.length ≤ s.size := by
  obtain ⟨vs, e, g1, g2, g3, _⟩ := lex_good _ _ _ (by rw [lst_length]; omega) h
  obtain rfl : us = vs := List.append_cancel_right e
  rw [lst_length] at g1 g3
  exact ⟨g1, g2, g3⟩
theorem RL_end {z : S46} (hz : z.f0 = 5) {us : List S46} (hu : ∀ u ∈ us, u.f0 ≠ 5) : ∃ x, RL 0 (us ++ [z]) x ∧ ∀ cs r, x = .ok (cs, r) → r = [z] := by
  obtain ⟨x, h1, h2⟩ := RL.total z hz us.length 0 us (by omega) (by omega) hu
  refine ⟨x, h1, fun cs r hx => ?_⟩
  obtain ⟨q, rfl, _, hq⟩ := h2 cs r hx
  obtain ⟨t, r0, p, e1, _, e3, _⟩ := h1.frame _ _ hx
  cases q with
  | nil => rfl
  | cons a q =>
    simp at e1
    obtain ⟨rfl, _⟩ := e1
    simp [stopT] at e3
    exact absurd e3 (hq a (by simp))
theorem PA.ex (s : ByteArray) : ∃ y, PA s y := by
  cases hx : lexL (s.size + 1) (lst s) with
  | error e => exact ⟨_, PA.byte e hx⟩
  | ok ts =>
    obtain ⟨us, rfl, g1, g2, g3, _⟩ := lex_good _ _ _ (by rw [lst_length]; omega) hx
    obtain ⟨x, h1, h2⟩ := RL_end (z := endS s.size) rfl (us := us.map (Tok.at_ s.size)) (by
      intro u hu
      obtain ⟨v, hv, rfl⟩ := List.mem_map.1 hu
      exact (g1 v hv).2.1)
    cases x with
    | error e => exact ⟨_, PA.tok us e hx h1⟩
    | ok p =>
      obtain ⟨cs, r⟩ := p
      obtain rfl := h2 cs r rfl
      exact ⟨_, PA.good us cs hx h1⟩
theorem PA.code {s : ByteArray} {y : List S41 × Int × Int} (h : PA s y) : y.2.1 = 0 ∨ (y.2.1 ≠ 0 ∧ y.1 = []) := by
  cases h with
  | byte e h => exact .inr ⟨lexL_code _ _ _ h, rfl⟩
  | tok us e h h1 => exact .inr ⟨by have := h1.code _ rfl; show e.1 ≠ 0; omega, rfl⟩
  | good => exact .inl rfl
theorem lexed_len (s : ByteArray) {us : List Tok} (h : lexL (s.size + 1) (lst s) = .ok (us ++ [endT])) : (us.map (Tok.at_ s.size) ++ [endS s.size]).length ≤ s.size + 1 := by
  have := (toks_good s h).2.2
  simp; omega
theorem at_valid (s : ByteArray) (hs : s.size ≤ 900000) {us : List Tok} (h : lexL (s.size + 1) (lst s) = .ok (us ++ [endT])) : ∀ t ∈ us.map (Tok.at_ s.size) ++ [endS s.size], validB t.f0 (lst t.f1) t.f2 = true ∧ t.f1.size ≤ 900000 := by
  obtain ⟨g1, _⟩ := toks_good s h
  intro t ht
  rcases List.mem_append.1 ht with ht | ht
  · obtain ⟨u, hu, rfl⟩ := List.mem_map.1 ht
    obtain ⟨a, b, c, d, e⟩ := g1 u hu
    refine ⟨a, ?_⟩
    show (str u.text).size ≤ 900000
    rw [size_str]; omega
  · rw [List.mem_singleton] at ht
    subst ht
    exact ⟨rfl, by show (str []).size ≤ 900000; simp⟩
/-- The entries of an accepted source: bounded, possible, and as many tokens. -/
theorem PA.facts {s : ByteArray} (hs : s.size ≤ 200000) {cs : List S41} {a : Int} (h : PA s (cs, 0, a)) :
    ∃ us, lexL (s.size + 1) (lst s) = .ok (us ++ [endT]) ∧ RL 0 (us.map (Tok.at_ s.size) ++ [endS s.size]) (.ok (cs, [endS s.size])) ∧ szL cs ≤ s.size ∧ depL cs ≤ 8 ∧ (toksL cs).length = us.length ∧ formL cs = true ∧ AllC (txt 900000) cs ∧ chkL cs = 0 ∧ us.length ≤ s.size ∧ a = 0 := by
  generalize hy : (cs, (0 : Int), a) = y at h
  cases h with
  | byte e h => injection hy with _ h2; injection h2 with h2 _; exact absurd h2.symm (lexL_code _ _ _ h)
  | tok us e h h1 => injection hy with _ h2; injection h2 with h2 _; have := h1.code _ rfl; omega
  | good us cs' h h1 =>
    injection hy with e1 e2
    subst e1
    obtain ⟨f1, f2, f3⟩ := h1.facts (by omega) _ _ rfl
    obtain ⟨k1, k2⟩ := h1.form (at_valid s (by omega) h) _ _ rfl
    have hl := lexed_len s h
    simp at f1 f3 hl
    refine ⟨us, h, h1, by omega, by omega, by omega, k1, k2, ?_, by omega, by simpa using (Prod.mk.inj e2).2⟩
    unfold chkL
    rw [if_pos k1, if_neg (by omega)]
def Tok.up (d : Nat) (t : Tok) : Tok := ⟨t.kind, t.text, t.n, t.rem + d⟩
abbrev KTN := Int × List UInt8 × Int
def Tok.key (t : Tok) : KTN := (t.kind, t.text, t.n)
/-- Bytes that are skipped. -/
def gapB (g : List UInt8) : Prop := ∀ x, skipL false (g ++ x) = skipL false x
/-- A token apart from its offset. -/
def k3 (t : S46) : KTN := (t.f0, lst t.f1, t.f2)
/-- What stands in front of an entry. -/
theorem RL.before {o : Nat} {ts : List S46} {x : Ans} (h : RL o ts x) : ∀ cs r, x = .ok (cs, r) → ∀ (w : Nat) (c : S41), cs[w]? = some c → ∃ p t q, ts = p ++ t :: q ∧ t.f0 = 1 ∧ t.f3 = c.f4 ∧ ∀ r' x', RL o r' x' → RL o (p ++ r') (pre (cs.take w) x') := by
  induction h with
  | stop => intro cs r hx w c hw; cases hx; simp at hw
  | bad => intro cs r hx; cases hx
  | semi o t ats u r x h1 h2 h3 hr ih =>
    intro cs q hx w c hw
    cases x with
    | error e => cases hx
    | ok y =>
      cases hx
      cases w with
      | zero =>
        simp at hw
        subst hw
        exact ⟨[], t, _, rfl, h1, rfl, fun r' x' hr' => by cases x' <;> simpa [pre] using hr'⟩
      | succ w =>
        obtain ⟨p, t', q', e, g1, g2, g3⟩ := ih _ _ rfl w c (by simpa using hw)
        refine ⟨t :: (ats ++ u :: p), t', q', by rw [e]; simp, g1, g2, fun r' x' hr' => ?_⟩
        have := RL.semi o t ats u _ _ h1 h2 h3 (g3 r' x' hr')
        simp only [List.cons_append, List.append_assoc]
        cases x' <;> simpa [pre, push] using this
  | syn => intro cs r hx; cases hx
  | lim => intro cs r hx; cases hx
  | blk o t ats u r ks b q x ho h1 h2 h3 hk hr ihk ih =>
    intro cs q' hx w c hw
    cases x with
    | error e => cases hx
    | ok y =>
      cases hx
      cases w with
      | zero =>
        simp at hw
        subst hw
        exact ⟨[], t, _, rfl, h1, rfl, fun r' x' hr' => by cases x' <;> simpa [pre] using hr'⟩
      | succ w =>
        obtain ⟨p, t', q2, e, g1, g2, g3⟩ := ih _ _ rfl w c (by simpa using hw)
        obtain ⟨b', q0, pk, f1, f2, f3, f4, f5⟩ := hk.frame _ _ rfl
        cases f1
        refine ⟨t :: (ats ++ u :: (pk ++ b :: p)), t', q2, by rw [f4, e]; simp, g1, g2, fun r' x' hr' => ?_⟩
        have hs := f5 (b :: (p ++ r')) _ (RL.stop (o + 1) b (p ++ r') f2 f3)
        have hs' : RL (o + 1) (pk ++ b :: (p ++ r')) (.ok (ks, b :: (p ++ r'))) := by simpa [pre] using hs
        have := RL.blk o t ats u _ ks b (p ++ r') _ ho h1 h2 h3 hs' (g3 r' x' hr')
        simp only [List.cons_append, List.append_assoc]
        cases x' <;> simpa [pre, push] using this
  | blkF => intro cs r hx; cases hx
/-- The offset of a fault is that of a token. -/
theorem RL.place {o : Nat} {ts : List S46} {x : Ans} (h : RL o ts x) : ∀ e, x = .error e → ∃ t ∈ ts, e.2 = t.f3 := by
  induction h with
  | stop => intro e hx; cases hx
  | bad o t r => intro e hx; cases hx; exact ⟨t, by simp, rfl⟩
  | semi o t ats u r x h1 h2 h3 hr ih =>
    intro e hx
    cases x with
    | error e' =>
      cases hx
      obtain ⟨t', h, g⟩ := ih _ rfl
      exact ⟨t', by simp [h], g⟩
    | ok p => cases hx
  | syn o t ats u r => intro e hx; cases hx; exact ⟨u, by simp, rfl⟩
  | lim t ats u r => intro e hx; cases hx; exact ⟨u, by simp, rfl⟩
  | blk o t ats u r ks b q x ho h1 h2 h3 hk hr ihk ih =>
    intro e hx
    cases x with
    | error e' =>
      cases hx
      obtain ⟨t', h, g⟩ := ih _ rfl
      obtain ⟨b', q0, pk, f1, f2, f3, f4, f5⟩ := hk.frame _ _ rfl
      exact ⟨t', by rw [f4]; simp [h], g⟩
    | ok p => cases hx
  | blkF o t ats u r e ho h1 h2 h3 hk ih =>
    intro e' hx
    cases hx
    obtain ⟨t', h, g⟩ := ih _ rfl
    exact ⟨t', by simp [h], g⟩
theorem PA.at_ {s : ByteArray} {y : List S41 × Int × Int} (h : PA s y) (hc : y.2.1 ≠ 0) : 0 ≤ y.2.2 ∧ y.2.2 ≤ (s.size : Int) ∧ y.1 = [] := by
  cases h with
  | byte e h =>
    have := lexL_err _ _ _ h
    rw [lst_length] at this
    exact ⟨by show (0 : Int) ≤ (s.size : Int) - e.2; omega, by show (s.size : Int) - e.2 ≤ s.size; omega, rfl⟩
  | tok us e h h1 =>
    obtain ⟨t, ht, g⟩ := h1.place _ rfl
    obtain ⟨g1, _⟩ := toks_good s h
    have hb : 0 ≤ t.f3 ∧ t.f3 ≤ (s.size : Int) := by
      rcases List.mem_append.1 ht with ht | ht
      · obtain ⟨u, hu, rfl⟩ := List.mem_map.1 ht
        obtain ⟨_, _, c, d, _⟩ := g1 u hu
        show (0 : Int) ≤ (s.size : Int) - u.rem ∧ (s.size : Int) - u.rem ≤ s.size
        omega
      · rw [List.mem_singleton] at ht
        subst ht
        show (0 : Int) ≤ (s.size : Int) - (0 : Nat) ∧ (s.size : Int) - (0 : Nat) ≤ s.size
        omega
    exact ⟨by show 0 ≤ e.2; rw [g]; exact hb.1, by show e.2 ≤ _; rw [g]; exact hb.2, rfl⟩
  | good => exact absurd rfl hc
end Go.Proofs.YtkifdadhojbohaaDoor.Pu
