/- Joined out of the texts of this proof that bear the names PrF29 PrF60 PrF59 PrF58 PrF57 PrG29 PwD: what each shows stands over it there. -/
import Derived.Test.YtkifdadhojbohaaDoorXk1
import Derived.Test.YtkifdadhojbohaaDoorXb1
import Derived.Test.YtkifdadhojbohaaDoorXw1
set_option linter.unusedVariables false
set_option linter.unusedSimpArgs false
namespace Go.Proofs.YtkifdadhojbohaaDoor.Pr
open Go.Proofs.YtkifdadhojbohaaDoor
open Go.RowKit Go.Proofs.YtkifdadhojbohaaDoorW.PrintWords Go.Proofs.YtkifdadhojbohaaDoorW.PrintLast Go.Proofs.YtkifdadhojbohaaDoorW.PrintMore
attribute [local go_sem] max2_int min2_int max_two min_two max_three min_three max_four min_four   -- for this text's walks alone
set_option linter.unusedVariables false
set_option linter.unusedSimpArgs false
/-! ### parser_Same: function 29 -/
def parser_Same.f (WF : Nat → List S41 → List S41 → Unit → Option Bool) (k : Nat) (l0 : List (S41)) (l1 : List (S41)) : Option (Bool) := (WF k l0 l1 ()).bind fun t101 => (some t101)
theorem parser_Same.mono (WF : Nat → List S41 → List S41 → Unit → Option Bool) (mWF : ∀ x0 x1 x2 k, LeO (WF k x0 x1 x2) (WF (k + 1) x0 x1 x2)) : ∀ a0 a1 k, LeO (parser_Same.f WF k a0 a1) (parser_Same.f WF (k + 1) a0 a1) := by
 intro a0 a1 k
 unfold parser_Same.f
 repeat' first
   | (with_reducible exact LeO.refl _)
   | exact mWF _ _ _ _
   | exact LeO.none _
   | refine LeO.ite ?_ ?_
   | refine LeO.bind ?_ (fun _ => ?_)
set_option maxHeartbeats 8000000 in
set_option maxRecDepth 100000 in
theorem parser_Same.calls (WF : Nat → List S41 → List S41 → Unit → Option Bool) (hWF : ∀ (k : Nat) (A0 : Option Addr) (c0 : Nat) (l0 : List (S41)) (A1 : Option Addr) (c1 : Nat) (l1 : List (S41)) (a2 : Unit) (r : Bool) (w : World) (hr0 : Kd.C k41 w A0 l0.length l0) (hc0 : l0.length ≤ c0) (hr1 : Kd.C k41 w A1 l1.length l1) (hc1 : l1.length ≤ c1) (h : WF k l0 l1 a2 = some r), Calls Tryd.prog 57 #[.slice A0 l0.length c0, .slice A1 l1.length c1, .func (.func 58) #[] #[]] w fun e w' => e = .returned (.bool r) ∧ Below w.heap.size w w') (k : Nat) (A0 : Option Addr) (c0 : Nat) (l0 : List (S41)) (A1 : Option Addr) (c1 : Nat) (l1 : List (S41)) (r : Bool) (w : World) (hr0 : Kd.C k41 w A0 l0.length l0) (hc0 : l0.length ≤ c0) (hr1 : Kd.C k41 w A1 l1.length l1) (hc1 : l1.length ≤ c1) (h : parser_Same.f WF k l0 l1 = some r) :
  Calls Tryd.prog 29 #[.slice A0 l0.length c0, .slice A1 l1.length c1] w fun e w' => e = .returned (.bool r) ∧ Below w.heap.size w w' := by
 have HR0 := Aside0.mk hr0
 have HC0 := Aside0.mk hc0
 clear hr0 hc0
 have HR1 := Aside0.mk hr1
 have HC1 := Aside0.mk hc1
 clear hr1 hc1
 have HB := Aside0.mk (Below.refl w.heap.size w)
 have H : ((WF k l0 l1 ()).bind fun t101 => (some t101)) = some r := h
 clear h
 replace H := Option.bind_eq_some_iff.mp H
 obtain ⟨t101, A30, H⟩ := H
 (try dsimp only at H)
 have A3 := Aside0.mk A30
 clear A30
 obtain rfl := Option.some.inj H
 go_enter Tryd.func29, Tryd.ntmps29
 go_wp2_with (first | ((with_reducible refine gate_callee (f := 57) rfl ?_); refine goesL_ (some 7) rfl rfl Tryd.func57 (by kernel_rfl) rfl #[.slice A0 l0.length c0, .slice A1 l1.length c1, .func (.func 58) #[] #[]] rfl ga_ ?_; (with_reducible refine (hWF k _ _ l0 _ _ l1 () t101 _ ?side1 ?side2 ?side3 ?side4 A3.out).mono ?_); (case side1 => repeat (first | exact HR0.out | (with_reducible refine Kd.C_alloc ?_ _) | (with_reducible refine Kd.C_drewN ?_ _) | (with_reducible refine Kd.C_drew ?_))); (case side2 => exact HC0.out); (case side3 => repeat (first | exact HR1.out | (with_reducible refine Kd.C_alloc ?_ _) | (with_reducible refine Kd.C_drewN ?_ _) | (with_reducible refine Kd.C_drew ?_))); (case side4 => exact HC1.out); rintro e w4 ⟨rfl, hb⟩; refine ⟨_, rfl, ?_⟩; refine cut1_ (below_step (bl_ HB.out) hb) ?_; clear HB; intro HB; (try clear hb); (try clear hb2); (try clear hk); (try clear hi)))
 go_ret
 exact ⟨er_, bl_ HB.out⟩
/-! ### parser_Same_1_1: function 60 -/
def parser_Same_1_1.f (a0_0 : Int) (a0_1 : ByteArray) (a0_2 : Int) (a0_3 : Int) (a1_0 : Int) (a1_1 : ByteArray) (a1_2 : Int) (a1_3 : Int) : Option (Bool) := if a0_0 = a1_0 then (if a0_1.toList = a1_1.toList then (some (a0_2 == a1_2)) else (some false)) else (some false)
set_option maxHeartbeats 8000000 in
set_option maxRecDepth 100000 in
theorem parser_Same_1_1.calls (a0_0 : Int) (a0_1 : ByteArray) (a0_2 : Int) (a0_3 : Int) (a1_0 : Int) (a1_1 : ByteArray) (a1_2 : Int) (a1_3 : Int) (r : Bool) (w : World) (h : parser_Same_1_1.f a0_0 a0_1 a0_2 a0_3 a1_0 a1_1 a1_2 a1_3 = some r) :
  Calls Tryd.prog 60 #[.agg #[.int .i64 a0_0, .string a0_1, .int .i64 a0_2, .int .i64 a0_3], .agg #[.int .i64 a1_0, .string a1_1, .int .i64 a1_2, .int .i64 a1_3]] w fun e w' => e = .returned (.bool r) ∧ Below w.heap.size w w' := by
 have hu46 := Tryd.underlying46
 have HB := Aside0.mk (Below.refl w.heap.size w)
 have H : (if a0_0 = a1_0 then (if a0_1.toList = a1_1.toList then (some (a0_2 == a1_2)) else (some false)) else (some false)) = some r := h
 clear h
 by_cases c3 : a0_0 = a1_0
 ·
  rw [if_pos c3] at H
  have c3b0 := beq_iff_eq.mpr c3
  have c3b1 := bne_eq_false_iff_eq.mpr c3
  clear c3
  by_cases c4 : a0_1.toList = a1_1.toList
  ·
   rw [if_pos c4] at H
   have c4b0 := beq_iff_eq.mpr c4
   have c4b1 := bne_eq_false_iff_eq.mpr c4
   clear c4
   obtain rfl := Option.some.inj H
   go_enter Tryd.func60, Tryd.ntmps60
   go_wp2_with (first | ((with_reducible refine gate_dst (N := 2) rfl ?_); refine bx_ (N := 2) (cs := #[.int .i64 a0_0, .string a0_1, .int .i64 a0_2, .int .i64 a0_3]) (t := 46) ?_; intro gb101 hg w5 hbox hb; refine cut4_ (below_step (bl_ HB.out) hb) (hbox) (bz_ (w := w) hg (bl_ HB.out)) (bz_ (w := w) hg (bl_ HB.out)) ?_; clear HB; intro HB BK101 GW101 GE101; clear hb hbox hg) | ((with_reducible refine gate_dst (N := 3) rfl ?_); refine bx_ (N := 3) (cs := #[.int .i64 a1_0, .string a1_1, .int .i64 a1_2, .int .i64 a1_3]) (t := 46) ?_; intro gb102 hg w6 hbox hb; refine cut7_ (bb_ BK101.out hb) (below_step (bl1_ HB.out GE101.out) hb) (hbox) (bz_ (w := w) hg (bl1_ HB.out GE101.out)) (bz_ (w := w) hg (bl1_ HB.out GE101.out)) (nl_ hg BK101.out) (ng_ hg BK101.out) ?_; clear BK101 HB; intro BK101 HB BK102 GW102 GE102 NB101_102 NB102_101; clear hb hbox hg; have hnb7 := NB101_102.out; have hnc7 := NB102_101.out; obtain ⟨hcz8_0, hcz8_1, hcz8_2, hcz8_3, hfz8_0, hfz8_1, hfz8_2, hfz8_3⟩ := cq4_ BK101.out; obtain ⟨hcz9_0, hcz9_1, hcz9_2, hcz9_3, hfz9_0, hfz9_1, hfz9_2, hfz9_3⟩ := cq4_ BK102.out))
   go_ret
   exact ⟨er_, bl2_ HB.out GE101.out GE102.out⟩
  ·
   rw [if_neg c4] at H
   have c4b0 := beq_eq_false_iff_ne.mpr c4
   have c4b1 := bne_iff_ne.mpr c4
   obtain rfl := Option.some.inj H
   go_enter Tryd.func60, Tryd.ntmps60
   go_wp2_with (first | ((with_reducible refine gate_dst (N := 2) rfl ?_); refine bx_ (N := 2) (cs := #[.int .i64 a0_0, .string a0_1, .int .i64 a0_2, .int .i64 a0_3]) (t := 46) ?_; intro gb101 hg w10 hbox hb; refine cut4_ (below_step (bl_ HB.out) hb) (hbox) (bz_ (w := w) hg (bl_ HB.out)) (bz_ (w := w) hg (bl_ HB.out)) ?_; clear HB; intro HB BK101 GW101 GE101; clear hb hbox hg) | ((with_reducible refine gate_dst (N := 3) rfl ?_); refine bx_ (N := 3) (cs := #[.int .i64 a1_0, .string a1_1, .int .i64 a1_2, .int .i64 a1_3]) (t := 46) ?_; intro gb102 hg w11 hbox hb; refine cut7_ (bb_ BK101.out hb) (below_step (bl1_ HB.out GE101.out) hb) (hbox) (bz_ (w := w) hg (bl1_ HB.out GE101.out)) (bz_ (w := w) hg (bl1_ HB.out GE101.out)) (nl_ hg BK101.out) (ng_ hg BK101.out) ?_; clear BK101 HB; intro BK101 HB BK102 GW102 GE102 NB101_102 NB102_101; clear hb hbox hg; have hnb12 := NB101_102.out; have hnc12 := NB102_101.out; obtain ⟨hcz13_0, hcz13_1, hcz13_2, hcz13_3, hfz13_0, hfz13_1, hfz13_2, hfz13_3⟩ := cq4_ BK101.out; obtain ⟨hcz14_0, hcz14_1, hcz14_2, hcz14_3, hfz14_0, hfz14_1, hfz14_2, hfz14_3⟩ := cq4_ BK102.out))
   go_ret
   exact ⟨er_, bl2_ HB.out GE101.out GE102.out⟩
 ·
  rw [if_neg c3] at H
  have c3b0 := beq_eq_false_iff_ne.mpr c3
  have c3b1 := bne_iff_ne.mpr c3
  obtain rfl := Option.some.inj H
  go_enter Tryd.func60, Tryd.ntmps60
  go_wp2_with (first | ((with_reducible refine gate_dst (N := 2) rfl ?_); refine bx_ (N := 2) (cs := #[.int .i64 a0_0, .string a0_1, .int .i64 a0_2, .int .i64 a0_3]) (t := 46) ?_; intro gb101 hg w15 hbox hb; refine cut4_ (below_step (bl_ HB.out) hb) (hbox) (bz_ (w := w) hg (bl_ HB.out)) (bz_ (w := w) hg (bl_ HB.out)) ?_; clear HB; intro HB BK101 GW101 GE101; clear hb hbox hg) | ((with_reducible refine gate_dst (N := 3) rfl ?_); refine bx_ (N := 3) (cs := #[.int .i64 a1_0, .string a1_1, .int .i64 a1_2, .int .i64 a1_3]) (t := 46) ?_; intro gb102 hg w16 hbox hb; refine cut7_ (bb_ BK101.out hb) (below_step (bl1_ HB.out GE101.out) hb) (hbox) (bz_ (w := w) hg (bl1_ HB.out GE101.out)) (bz_ (w := w) hg (bl1_ HB.out GE101.out)) (nl_ hg BK101.out) (ng_ hg BK101.out) ?_; clear BK101 HB; intro BK101 HB BK102 GW102 GE102 NB101_102 NB102_101; clear hb hbox hg; have hnb17 := NB101_102.out; have hnc17 := NB102_101.out; obtain ⟨hcz18_0, hcz18_1, hcz18_2, hcz18_3, hfz18_0, hfz18_1, hfz18_2, hfz18_3⟩ := cq4_ BK101.out; obtain ⟨hcz19_0, hcz19_1, hcz19_2, hcz19_3, hfz19_0, hfz19_1, hfz19_2, hfz19_3⟩ := cq4_ BK102.out))
  go_ret
  exact ⟨er_, bl2_ HB.out GE101.out GE102.out⟩
/-! ### api_Token: function 59 -/
def api_Token.l0 : Nat → List (S46) → List (S46) → Int → Int → Option (Bool)
 | 0, _, _, _, _ => none
 | k + 1, x1, x15, x16, x17 => if x17 < x16 then (if 0 ≤ x17 then (if x17 < (x15.length : Int) then (if x17 < (x1.length : Int) then ((parser_Same_1_1.f ((rd_T46 x15 x17).f0) ((rd_T46 x15 x17).f1) ((rd_T46 x15 x17).f2) ((rd_T46 x15 x17).f3) ((rd_T46 x1 x17).f0) ((rd_T46 x1 x17).f1) ((rd_T46 x1 x17).f2) ((rd_T46 x1 x17).f3)).bind fun t107 => (if t107 = true then (api_Token.l0 k x1 x15 x16 (wrap64 (x17 + 1))) else (some false))) else (none)) else (none)) else (none)) else (some true)
def api_Token.f (k : Nat) (l0 : List (S46)) (l1 : List (S46)) (a2 : Unit) : Option (Bool) := if (l0.length : Int) = (l1.length : Int) then (api_Token.l0 k l1 l0 (l0.length : Int) 0) else (some false)
theorem api_Token.mono_l : ∀ k, (∀ y0 y1 y2 y3, LeO (api_Token.l0 k y0 y1 y2 y3) (api_Token.l0 (k + 1) y0 y1 y2 y3))
 | 0 => fun _ _ _ _ r h => by simp [api_Token.l0] at h
 | k + 1 => by
  have ih0 := api_Token.mono_l k
  ·
   intro y0 y1 y2 y3
   unfold api_Token.l0
   repeat' first
   | (with_reducible exact LeO.refl _)
   | exact ih0 _ _ _ _
   | exact LeO.none _
   | refine LeO.ite ?_ ?_
   | refine LeO.bind ?_ (fun _ => ?_)
theorem api_Token.mono : ∀ a0 a1 a2 k, LeO (api_Token.f k a0 a1 a2) (api_Token.f (k + 1) a0 a1 a2) := by
 intro a0 a1 a2 k
 have ih0 := api_Token.mono_l k
 unfold api_Token.f
 repeat' first
   | (with_reducible exact LeO.refl _)
   | exact ih0 _ _ _ _
   | exact LeO.none _
   | refine LeO.ite ?_ ?_
   | refine LeO.bind ?_ (fun _ => ?_)
set_option maxHeartbeats 8000000 in
set_option maxRecDepth 100000 in
theorem api_Token.calls (k : Nat) (A0 : Option Addr) (c0 : Nat) (l0 : List (S46)) (A1 : Option Addr) (c1 : Nat) (l1 : List (S46)) (a2 : Unit) (r : Bool) (w : World) (hr0 : Kd.C k46 w A0 l0.length l0) (hc0 : l0.length ≤ c0) (hr1 : Kd.C k46 w A1 l1.length l1) (hc1 : l1.length ≤ c1) (h : api_Token.f k l0 l1 a2 = some r) :
  Calls Tryd.prog 59 #[.slice A0 l0.length c0, .slice A1 l1.length c1, .func (.func 60) #[] #[]] w fun e w' => e = .returned (.bool r) ∧ Below w.heap.size w w' := by
 have hu46 := Tryd.underlying46
 have HR0 := Aside0.mk hr0
 have HC0 := Aside0.mk hc0
 clear hr0 hc0
 have HR1 := Aside0.mk hr1
 have HC1 := Aside0.mk hc1
 clear hr1 hc1
 have HB := Aside0.mk (Below.refl w.heap.size w)
 have H : (if (l0.length : Int) = (l1.length : Int) then (api_Token.l0 k l1 l0 (l0.length : Int) 0) else (some false)) = some r := h
 clear h
 by_cases c4 : (l0.length : Int) = (l1.length : Int)
 ·
  rw [if_pos c4] at H
  have c4b0 := beq_iff_eq.mpr c4
  have c4b1 := bne_eq_false_iff_eq.mpr c4
  have c4b2 : (l0.length == l1.length) = true := by first | simpa using c4 | (simp at c4 ⊢; omega)
  clear c4
  have H' := Aside0.mk H
  clear H
  go_enter Tryd.func59, Tryd.ntmps59
  go_wp2
  go_loopg [17] k (fun kq v17 w' => ∃ (x17_1 : Int), v17 = .int .i64 x17_1 ∧ Aside0 (api_Token.l0 kq l1 l0 (l0.length : Int) x17_1 = some r) ∧ Aside0 (kq ≤ k) ∧ Aside0 (Below w.heap.size w w'))
  case atStart => exact ⟨(0), sr_, H', ⟨Nat.le_refl _⟩, ⟨bl_ HB.out⟩⟩
  case round =>
   clear H'
   try clear c1
   try clear p2
   try clear c4
   try clear c4b0
   try clear c4b1
   try clear c4b2
   obtain ⟨x17_1, rfl, HA, HK1, HB⟩ := hrel
   cases gk with
   | zero => exact absurd HA.out (by simp [api_Token.l0])
   | succ k1 =>
    have H := HA.out
    clear HA
    simp only [api_Token.l0] at H
    by_cases c5 : x17_1 < (l0.length : Int)
    ·
     rw [if_pos c5] at H
     have c5b0 := decide_eq_true c5
     clear c5
     by_cases c6 : 0 ≤ x17_1
     ·
      rw [if_pos c6] at H
      have c6b0 := decide_eq_true c6
      clear c6
      by_cases c7 : x17_1 < (l0.length : Int)
      ·
       rw [if_pos c7] at H
       have c7b0 := decide_eq_true c7
       clear c7
       by_cases c8 : x17_1 < (l1.length : Int)
       ·
        rw [if_pos c8] at H
        have c8b0 := decide_eq_true c8
        clear c8
        replace H := Option.bind_eq_some_iff.mp H
        obtain ⟨t107, A90, H⟩ := H
        (try dsimp only at H)
        have A9 := Aside0.mk A90
        clear A90
        by_cases c10 : t107 = true
        ·
         subst c10
         have H1 : (api_Token.l0 k1 l1 l0 (l0.length : Int) (wrap64 (x17_1 + 1))) = some r := by rw [if_pos rfl] at H; exact H
         clear H
         have H := H1
         clear H1
         have H' := Aside0.mk H
         clear H
         have p103 : 0 ≤ (x17_1 : Int) := dt_
         have q103 : x17_1 < (l0.length : Int) := dt_
         obtain ⟨ad103, e103, hx103_0, hx103_1, hx103_2, hx103_3⟩ := at_T46 HR0.out x17_1 p103 q103
         cases e103
         replace hx103_0 := pw_cell_below HB.out hx103_0
         replace hx103_1 := pw_cell_below HB.out hx103_1
         replace hx103_2 := pw_cell_below HB.out hx103_2
         replace hx103_3 := pw_cell_below HB.out hx103_3
         replace p103 := eq_true p103
         replace q103 := eq_true q103
         go_wp2_with (first | ((with_reducible refine gate_dst (N := 8) rfl ?_); refine bx_ (N := 8) (cs := #[.int .i64 0, .string (⟨#[]⟩ : ByteArray), .int .i64 0, .int .i64 0]) (t := 46) ?_; intro gb104 hg w11 hbox hb; refine cut4_ (below_step (bl_ HB.out) hb) (hbox) (bz_ (w := w) hg (bl_ HB.out)) (bz_ (w := w) hg (bl_ HB.out)) ?_; clear HB; intro HB BK104 GW104 GE104; clear hb hbox hg; obtain ⟨hcz12_0, hcz12_1, hcz12_2, hcz12_3, hfz12_0, hfz12_1, hfz12_2, hfz12_3⟩ := cq4_ BK104.out; have p105 : 0 ≤ (x17_1 : Int) := dt_; have q105 : x17_1 < (l1.length : Int) := dt_; obtain ⟨ad105, e105, hx105_0, hx105_1, hx105_2, hx105_3⟩ := at_T46 HR1.out x17_1 p105 q105; cases e105; have hn105_0 : ad105.block ≠ gb104 := Nat.ne_of_lt (Nat.lt_of_lt_of_le (by have := World.block_lt_of_cell? _ _ hx105_0; first | rwa [add_block] at this | exact this) GW104.out); have hn105_1 : ad105.block ≠ gb104 := Nat.ne_of_lt (Nat.lt_of_lt_of_le (by have := World.block_lt_of_cell? _ _ hx105_0; first | rwa [add_block] at this | exact this) GW104.out); have hn105_2 : ad105.block ≠ gb104 := Nat.ne_of_lt (Nat.lt_of_lt_of_le (by have := World.block_lt_of_cell? _ _ hx105_0; first | rwa [add_block] at this | exact this) GW104.out); have hn105_3 : ad105.block ≠ gb104 := Nat.ne_of_lt (Nat.lt_of_lt_of_le (by have := World.block_lt_of_cell? _ _ hx105_0; first | rwa [add_block] at this | exact this) GW104.out); replace hx105_0 := pw_cell_below HB.out hx105_0; replace hx105_1 := pw_cell_below HB.out hx105_1; replace hx105_2 := pw_cell_below HB.out hx105_2; replace hx105_3 := pw_cell_below HB.out hx105_3; replace hx105_0 := cx_ gb104 0 (.int .i64 ((rd_T46 l0 x17_1).f0)) hn105_0 hx105_0; replace hx105_1 := cx_ gb104 0 (.int .i64 ((rd_T46 l0 x17_1).f0)) hn105_0 hx105_1; replace hx105_2 := cx_ gb104 0 (.int .i64 ((rd_T46 l0 x17_1).f0)) hn105_0 hx105_2; replace hx105_3 := cx_ gb104 0 (.int .i64 ((rd_T46 l0 x17_1).f0)) hn105_0 hx105_3; replace hx105_0 := cx_ gb104 1 (.string ((rd_T46 l0 x17_1).f1)) hn105_1 hx105_0; replace hx105_1 := cx_ gb104 1 (.string ((rd_T46 l0 x17_1).f1)) hn105_1 hx105_1; replace hx105_2 := cx_ gb104 1 (.string ((rd_T46 l0 x17_1).f1)) hn105_1 hx105_2; replace hx105_3 := cx_ gb104 1 (.string ((rd_T46 l0 x17_1).f1)) hn105_1 hx105_3; replace hx105_0 := cx_ gb104 2 (.int .i64 ((rd_T46 l0 x17_1).f2)) hn105_2 hx105_0; replace hx105_1 := cx_ gb104 2 (.int .i64 ((rd_T46 l0 x17_1).f2)) hn105_2 hx105_1; replace hx105_2 := cx_ gb104 2 (.int .i64 ((rd_T46 l0 x17_1).f2)) hn105_2 hx105_2; replace hx105_3 := cx_ gb104 2 (.int .i64 ((rd_T46 l0 x17_1).f2)) hn105_2 hx105_3; replace hx105_0 := cx_ gb104 3 (.int .i64 ((rd_T46 l0 x17_1).f3)) hn105_3 hx105_0; replace hx105_1 := cx_ gb104 3 (.int .i64 ((rd_T46 l0 x17_1).f3)) hn105_3 hx105_1; replace hx105_2 := cx_ gb104 3 (.int .i64 ((rd_T46 l0 x17_1).f3)) hn105_3 hx105_2; replace hx105_3 := cx_ gb104 3 (.int .i64 ((rd_T46 l0 x17_1).f3)) hn105_3 hx105_3; clear hn105_0; clear hn105_1; clear hn105_2; clear hn105_3; replace p105 := eq_true p105; replace q105 := eq_true q105) | ((with_reducible refine gate_dst (N := 9) rfl ?_); refine bx_ (N := 9) (cs := #[.int .i64 0, .string (⟨#[]⟩ : ByteArray), .int .i64 0, .int .i64 0]) (t := 46) ?_; intro gb106 hg w13 hbox hb; refine cut7_ (blk_below (g := gb104) (o := .cells #[.int .i64 ((rd_T46 l0 x17_1).f0), .string ((rd_T46 l0 x17_1).f1), .int .i64 ((rd_T46 l0 x17_1).f2), .int .i64 ((rd_T46 l0 x17_1).f3)] 46 (0, 0)) (put4_ (bk_ BK104.out)) hb) (below_step (bl1_ HB.out GE104.out) hb) (hbox) (bz_ (w := w) hg (bl1_ HB.out GE104.out)) (bz_ (w := w) hg (bl1_ HB.out GE104.out)) ((by rw [hg]; exact Nat.ne_of_lt (blk_lt (g := gb104) (o := .cells #[.int .i64 ((rd_T46 l0 x17_1).f0), .string ((rd_T46 l0 x17_1).f1), .int .i64 ((rd_T46 l0 x17_1).f2), .int .i64 ((rd_T46 l0 x17_1).f3)] 46 (0, 0)) (by exact put4_ (bk_ BK104.out))) : gb104 ≠ gb106)) ((by rw [hg]; exact Nat.ne_of_gt (blk_lt (g := gb104) (o := .cells #[.int .i64 ((rd_T46 l0 x17_1).f0), .string ((rd_T46 l0 x17_1).f1), .int .i64 ((rd_T46 l0 x17_1).f2), .int .i64 ((rd_T46 l0 x17_1).f3)] 46 (0, 0)) (by exact put4_ (bk_ BK104.out))) : gb106 ≠ gb104)) ?_; clear BK104 HB; intro BK104 HB BK106 GW106 GE106 NB104_106 NB106_104; clear hb hbox hg; have hnb14 := NB106_104.out; have hnc14 := NB104_106.out; obtain ⟨hcz15_0, hcz15_1, hcz15_2, hcz15_3, hfz15_0, hfz15_1, hfz15_2, hfz15_3⟩ := cq4_ BK106.out; obtain ⟨hcz16_0, hcz16_1, hcz16_2, hcz16_3, hfz16_0, hfz16_1, hfz16_2, hfz16_3⟩ := cq4_ BK104.out) | ((with_reducible refine (parser_Same_1_1.calls ((rd_T46 l0 x17_1).f0) ((rd_T46 l0 x17_1).f1) ((rd_T46 l0 x17_1).f2) ((rd_T46 l0 x17_1).f3) ((rd_T46 l1 x17_1).f0) ((rd_T46 l1 x17_1).f1) ((rd_T46 l1 x17_1).f2) ((rd_T46 l1 x17_1).f3) true _ A9.out).mono ?_); rintro e w17 ⟨rfl, hb⟩; refine cut3_ (blk_below (g := gb104) (o := .cells #[.int .i64 ((rd_T46 l0 x17_1).f0), .string ((rd_T46 l0 x17_1).f1), .int .i64 ((rd_T46 l0 x17_1).f2), .int .i64 ((rd_T46 l0 x17_1).f3)] 46 (0, 0)) (far4_ (bk_ BK104.out) NB104_106.out) hb) (blk_below (g := gb106) (o := .cells #[.int .i64 ((rd_T46 l1 x17_1).f0), .string ((rd_T46 l1 x17_1).f1), .int .i64 ((rd_T46 l1 x17_1).f2), .int .i64 ((rd_T46 l1 x17_1).f3)] 46 (0, 0)) (put4_ (bk_ BK106.out)) hb) (below_step (bl2_ HB.out GE104.out GE106.out) hb) ?_; clear BK104 BK106 HB; intro BK104 BK106 HB; (try clear hb); (try clear hb2); (try clear hk); (try clear hi)))
         go_roundg k1
         case measure => have := HK1.out; omega
         case rel => exact ⟨(wrap64 (x17_1 + 1)), sr_, H', ⟨by have := HK1.out; omega⟩, ⟨bl2_ HB.out GE104.out GE106.out⟩⟩
        ·
         replace c10 := Bool.eq_false_iff.mpr c10
         subst c10
         have H1 : (some false) = some r := by rw [if_neg (show ¬ (false = true) by decide)] at H; exact H
         clear H
         have H := H1
         clear H1
         obtain rfl := Option.some.inj H
         have p103 : 0 ≤ (x17_1 : Int) := dt_
         have q103 : x17_1 < (l0.length : Int) := dt_
         obtain ⟨ad103, e103, hx103_0, hx103_1, hx103_2, hx103_3⟩ := at_T46 HR0.out x17_1 p103 q103
         cases e103
         replace hx103_0 := pw_cell_below HB.out hx103_0
         replace hx103_1 := pw_cell_below HB.out hx103_1
         replace hx103_2 := pw_cell_below HB.out hx103_2
         replace hx103_3 := pw_cell_below HB.out hx103_3
         replace p103 := eq_true p103
         replace q103 := eq_true q103
         go_wp2_with (first | ((with_reducible refine gate_dst (N := 8) rfl ?_); refine bx_ (N := 8) (cs := #[.int .i64 0, .string (⟨#[]⟩ : ByteArray), .int .i64 0, .int .i64 0]) (t := 46) ?_; intro gb104 hg w18 hbox hb; refine cut4_ (below_step (bl_ HB.out) hb) (hbox) (bz_ (w := w) hg (bl_ HB.out)) (bz_ (w := w) hg (bl_ HB.out)) ?_; clear HB; intro HB BK104 GW104 GE104; clear hb hbox hg; obtain ⟨hcz19_0, hcz19_1, hcz19_2, hcz19_3, hfz19_0, hfz19_1, hfz19_2, hfz19_3⟩ := cq4_ BK104.out; have p105 : 0 ≤ (x17_1 : Int) := dt_; have q105 : x17_1 < (l1.length : Int) := dt_; obtain ⟨ad105, e105, hx105_0, hx105_1, hx105_2, hx105_3⟩ := at_T46 HR1.out x17_1 p105 q105; cases e105; have hn105_0 : ad105.block ≠ gb104 := Nat.ne_of_lt (Nat.lt_of_lt_of_le (by have := World.block_lt_of_cell? _ _ hx105_0; first | rwa [add_block] at this | exact this) GW104.out); have hn105_1 : ad105.block ≠ gb104 := Nat.ne_of_lt (Nat.lt_of_lt_of_le (by have := World.block_lt_of_cell? _ _ hx105_0; first | rwa [add_block] at this | exact this) GW104.out); have hn105_2 : ad105.block ≠ gb104 := Nat.ne_of_lt (Nat.lt_of_lt_of_le (by have := World.block_lt_of_cell? _ _ hx105_0; first | rwa [add_block] at this | exact this) GW104.out); have hn105_3 : ad105.block ≠ gb104 := Nat.ne_of_lt (Nat.lt_of_lt_of_le (by have := World.block_lt_of_cell? _ _ hx105_0; first | rwa [add_block] at this | exact this) GW104.out); replace hx105_0 := pw_cell_below HB.out hx105_0; replace hx105_1 := pw_cell_below HB.out hx105_1; replace hx105_2 := pw_cell_below HB.out hx105_2; replace hx105_3 := pw_cell_below HB.out hx105_3; replace hx105_0 := cx_ gb104 0 (.int .i64 ((rd_T46 l0 x17_1).f0)) hn105_0 hx105_0; replace hx105_1 := cx_ gb104 0 (.int .i64 ((rd_T46 l0 x17_1).f0)) hn105_0 hx105_1; replace hx105_2 := cx_ gb104 0 (.int .i64 ((rd_T46 l0 x17_1).f0)) hn105_0 hx105_2; replace hx105_3 := cx_ gb104 0 (.int .i64 ((rd_T46 l0 x17_1).f0)) hn105_0 hx105_3; replace hx105_0 := cx_ gb104 1 (.string ((rd_T46 l0 x17_1).f1)) hn105_1 hx105_0; replace hx105_1 := cx_ gb104 1 (.string ((rd_T46 l0 x17_1).f1)) hn105_1 hx105_1; replace hx105_2 := cx_ gb104 1 (.string ((rd_T46 l0 x17_1).f1)) hn105_1 hx105_2; replace hx105_3 := cx_ gb104 1 (.string ((rd_T46 l0 x17_1).f1)) hn105_1 hx105_3; replace hx105_0 := cx_ gb104 2 (.int .i64 ((rd_T46 l0 x17_1).f2)) hn105_2 hx105_0; replace hx105_1 := cx_ gb104 2 (.int .i64 ((rd_T46 l0 x17_1).f2)) hn105_2 hx105_1; replace hx105_2 := cx_ gb104 2 (.int .i64 ((rd_T46 l0 x17_1).f2)) hn105_2 hx105_2; replace hx105_3 := cx_ gb104 2 (.int .i64 ((rd_T46 l0 x17_1).f2)) hn105_2 hx105_3; replace hx105_0 := cx_ gb104 3 (.int .i64 ((rd_T46 l0 x17_1).f3)) hn105_3 hx105_0; replace hx105_1 := cx_ gb104 3 (.int .i64 ((rd_T46 l0 x17_1).f3)) hn105_3 hx105_1; replace hx105_2 := cx_ gb104 3 (.int .i64 ((rd_T46 l0 x17_1).f3)) hn105_3 hx105_2; replace hx105_3 := cx_ gb104 3 (.int .i64 ((rd_T46 l0 x17_1).f3)) hn105_3 hx105_3; clear hn105_0; clear hn105_1; clear hn105_2; clear hn105_3; replace p105 := eq_true p105; replace q105 := eq_true q105) | ((with_reducible refine gate_dst (N := 9) rfl ?_); refine bx_ (N := 9) (cs := #[.int .i64 0, .string (⟨#[]⟩ : ByteArray), .int .i64 0, .int .i64 0]) (t := 46) ?_; intro gb106 hg w20 hbox hb; refine cut7_ (blk_below (g := gb104) (o := .cells #[.int .i64 ((rd_T46 l0 x17_1).f0), .string ((rd_T46 l0 x17_1).f1), .int .i64 ((rd_T46 l0 x17_1).f2), .int .i64 ((rd_T46 l0 x17_1).f3)] 46 (0, 0)) (put4_ (bk_ BK104.out)) hb) (below_step (bl1_ HB.out GE104.out) hb) (hbox) (bz_ (w := w) hg (bl1_ HB.out GE104.out)) (bz_ (w := w) hg (bl1_ HB.out GE104.out)) ((by rw [hg]; exact Nat.ne_of_lt (blk_lt (g := gb104) (o := .cells #[.int .i64 ((rd_T46 l0 x17_1).f0), .string ((rd_T46 l0 x17_1).f1), .int .i64 ((rd_T46 l0 x17_1).f2), .int .i64 ((rd_T46 l0 x17_1).f3)] 46 (0, 0)) (by exact put4_ (bk_ BK104.out))) : gb104 ≠ gb106)) ((by rw [hg]; exact Nat.ne_of_gt (blk_lt (g := gb104) (o := .cells #[.int .i64 ((rd_T46 l0 x17_1).f0), .string ((rd_T46 l0 x17_1).f1), .int .i64 ((rd_T46 l0 x17_1).f2), .int .i64 ((rd_T46 l0 x17_1).f3)] 46 (0, 0)) (by exact put4_ (bk_ BK104.out))) : gb106 ≠ gb104)) ?_; clear BK104 HB; intro BK104 HB BK106 GW106 GE106 NB104_106 NB106_104; clear hb hbox hg; have hnb21 := NB106_104.out; have hnc21 := NB104_106.out; obtain ⟨hcz22_0, hcz22_1, hcz22_2, hcz22_3, hfz22_0, hfz22_1, hfz22_2, hfz22_3⟩ := cq4_ BK106.out; obtain ⟨hcz23_0, hcz23_1, hcz23_2, hcz23_3, hfz23_0, hfz23_1, hfz23_2, hfz23_3⟩ := cq4_ BK104.out) | ((with_reducible refine (parser_Same_1_1.calls ((rd_T46 l0 x17_1).f0) ((rd_T46 l0 x17_1).f1) ((rd_T46 l0 x17_1).f2) ((rd_T46 l0 x17_1).f3) ((rd_T46 l1 x17_1).f0) ((rd_T46 l1 x17_1).f1) ((rd_T46 l1 x17_1).f2) ((rd_T46 l1 x17_1).f3) false _ A9.out).mono ?_); rintro e w24 ⟨rfl, hb⟩; refine cut3_ (blk_below (g := gb104) (o := .cells #[.int .i64 ((rd_T46 l0 x17_1).f0), .string ((rd_T46 l0 x17_1).f1), .int .i64 ((rd_T46 l0 x17_1).f2), .int .i64 ((rd_T46 l0 x17_1).f3)] 46 (0, 0)) (far4_ (bk_ BK104.out) NB104_106.out) hb) (blk_below (g := gb106) (o := .cells #[.int .i64 ((rd_T46 l1 x17_1).f0), .string ((rd_T46 l1 x17_1).f1), .int .i64 ((rd_T46 l1 x17_1).f2), .int .i64 ((rd_T46 l1 x17_1).f3)] 46 (0, 0)) (put4_ (bk_ BK106.out)) hb) (below_step (bl2_ HB.out GE104.out GE106.out) hb) ?_; clear BK104 BK106 HB; intro BK104 BK106 HB; (try clear hb); (try clear hb2); (try clear hk); (try clear hi)))
         go_ret
         exact ⟨er_, bl2_ HB.out GE104.out GE106.out⟩
       ·
        rw [if_neg c8] at H
        exact absurd H (by simp)
      ·
       rw [if_neg c7] at H
       exact absurd H (by simp)
     ·
      rw [if_neg c6] at H
      exact absurd H (by simp)
    ·
     rw [if_neg c5] at H
     have c5b0 := decide_eq_false c5
     clear c5
     obtain rfl := Option.some.inj H
     go_wp2
     go_ret
     exact ⟨er_, bl_ HB.out⟩
 ·
  rw [if_neg c4] at H
  have c4b0 := beq_eq_false_iff_ne.mpr c4
  have c4b1 := bne_iff_ne.mpr c4
  have c4b2 : (l0.length == l1.length) = false := by first | simpa using c4 | (simp at c4 ⊢; omega)
  obtain rfl := Option.some.inj H
  go_enter Tryd.func59, Tryd.ntmps59
  go_wp2
  go_ret
  exact ⟨er_, bl_ HB.out⟩
/-! ### parser_Same_1: function 58 -/
def parser_Same_1.f (SF : Nat → List S41 → List S41 → Option Bool) (k : Nat) (a0_0 : ByteArray) (l0_1 : List (S46)) (a0_2 : Bool) (l0_3 : List (S41)) (a0_4 : Int) (a1_0 : ByteArray) (l1_1 : List (S46)) (a1_2 : Bool) (l1_3 : List (S41)) (a1_4 : Int) : Option (Bool) := if a0_0.toList = a1_0.toList then (if (a0_2 == a1_2) = true then ((SF k l0_3 l1_3).bind fun t110 => (if t110 = true then ((api_Token.f k l0_1 l1_1 ()).bind fun t111 => (some t111)) else (some false))) else (some false)) else (some false)
theorem parser_Same_1.mono (SF : Nat → List S41 → List S41 → Option Bool) (mSF : ∀ x0 x1 k, LeO (SF k x0 x1) (SF (k + 1) x0 x1)) : ∀ a0 a1 a2 a3 a4 a5 a6 a7 a8 a9 k, LeO (parser_Same_1.f SF k a0 a1 a2 a3 a4 a5 a6 a7 a8 a9) (parser_Same_1.f SF (k + 1) a0 a1 a2 a3 a4 a5 a6 a7 a8 a9) := by
 intro a0 a1 a2 a3 a4 a5 a6 a7 a8 a9 k
 unfold parser_Same_1.f
 repeat' first
   | (with_reducible exact LeO.refl _)
   | exact mSF _ _ _
   | exact api_Token.mono _ _ _ _
   | exact LeO.none _
   | refine LeO.ite ?_ ?_
   | refine LeO.bind ?_ (fun _ => ?_)
set_option maxHeartbeats 8000000 in
set_option maxRecDepth 100000 in
theorem parser_Same_1.calls (SF : Nat → List S41 → List S41 → Option Bool) (hSF : ∀ (k : Nat) (A0 : Option Addr) (c0 : Nat) (l0 : List (S41)) (A1 : Option Addr) (c1 : Nat) (l1 : List (S41)) (r : Bool) (w : World) (hr0 : Kd.C k41 w A0 l0.length l0) (hc0 : l0.length ≤ c0) (hr1 : Kd.C k41 w A1 l1.length l1) (hc1 : l1.length ≤ c1) (h : SF k l0 l1 = some r), Calls Tryd.prog 29 #[.slice A0 l0.length c0, .slice A1 l1.length c1] w fun e w' => e = .returned (.bool r) ∧ Below w.heap.size w w') (k : Nat) (a0_0 : ByteArray) (A0_1 : Option Addr) (c0_1 : Nat) (l0_1 : List (S46)) (a0_2 : Bool) (A0_3 : Option Addr) (c0_3 : Nat) (l0_3 : List (S41)) (a0_4 : Int) (a1_0 : ByteArray) (A1_1 : Option Addr) (c1_1 : Nat) (l1_1 : List (S46)) (a1_2 : Bool) (A1_3 : Option Addr) (c1_3 : Nat) (l1_3 : List (S41)) (a1_4 : Int) (r : Bool) (w : World) (hr0_1 : Kd.C k46 w A0_1 l0_1.length l0_1) (hc0_1 : l0_1.length ≤ c0_1) (hr0_3 : Kd.C k41 w A0_3 l0_3.length l0_3) (hc0_3 : l0_3.length ≤ c0_3) (hr1_1 : Kd.C k46 w A1_1 l1_1.length l1_1) (hc1_1 : l1_1.length ≤ c1_1) (hr1_3 : Kd.C k41 w A1_3 l1_3.length l1_3) (hc1_3 : l1_3.length ≤ c1_3) (h : parser_Same_1.f SF k a0_0 l0_1 a0_2 l0_3 a0_4 a1_0 l1_1 a1_2 l1_3 a1_4 = some r) :
  Calls Tryd.prog 58 #[.agg #[.string a0_0, .slice A0_1 l0_1.length c0_1, .bool a0_2, .slice A0_3 l0_3.length c0_3, .int .i64 a0_4], .agg #[.string a1_0, .slice A1_1 l1_1.length c1_1, .bool a1_2, .slice A1_3 l1_3.length c1_3, .int .i64 a1_4]] w fun e w' => e = .returned (.bool r) ∧ Below w.heap.size w w' := by
 have hu41 := Tryd.underlying41
 have HR0_1 := Aside0.mk hr0_1
 have HC0_1 := Aside0.mk hc0_1
 clear hr0_1 hc0_1
 have HR0_3 := Aside0.mk hr0_3
 have HC0_3 := Aside0.mk hc0_3
 clear hr0_3 hc0_3
 have HR1_1 := Aside0.mk hr1_1
 have HC1_1 := Aside0.mk hc1_1
 clear hr1_1 hc1_1
 have HR1_3 := Aside0.mk hr1_3
 have HC1_3 := Aside0.mk hc1_3
 clear hr1_3 hc1_3
 have HB := Aside0.mk (Below.refl w.heap.size w)
 have H : (if a0_0.toList = a1_0.toList then (if (a0_2 == a1_2) = true then ((SF k l0_3 l1_3).bind fun t110 => (if t110 = true then ((api_Token.f k l0_1 l1_1 ()).bind fun t111 => (some t111)) else (some false))) else (some false)) else (some false)) = some r := h
 clear h
 by_cases c3 : a0_0.toList = a1_0.toList
 ·
  rw [if_pos c3] at H
  have c3b0 := beq_iff_eq.mpr c3
  have c3b1 := bne_eq_false_iff_eq.mpr c3
  clear c3
  by_cases c4 : (a0_2 == a1_2) = true
  ·
   rw [if_pos c4] at H
   have c4b0 : (a0_2 == a1_2) = true := c4
   (try (have c4b1 : decide (a0_2 = a1_2) = true := by simpa using c4))
   (try (have c4b2 : (a0_2 == a1_2) = true := by simpa using c4))
   clear c4
   replace H := Option.bind_eq_some_iff.mp H
   obtain ⟨t110, A50, H⟩ := H
   (try dsimp only at H)
   have A5 := Aside0.mk A50
   clear A50
   by_cases c6 : t110 = true
   ·
    subst c6
    have H1 : ((api_Token.f k l0_1 l1_1 ()).bind fun t111 => (some t111)) = some r := by rw [if_pos rfl] at H; exact H
    clear H
    have H := H1
    clear H1
    replace H := Option.bind_eq_some_iff.mp H
    obtain ⟨t111, A70, H⟩ := H
    (try dsimp only at H)
    have A7 := Aside0.mk A70
    clear A70
    obtain rfl := Option.some.inj H
    go_enter Tryd.func58, Tryd.ntmps58
    go_wp2_with (first | ((with_reducible refine gate_dst (N := 2) rfl ?_); refine bx_ (N := 2) (cs := #[.string a0_0, .slice A0_1 l0_1.length c0_1, .bool a0_2, .slice A0_3 l0_3.length c0_3, .int .i64 a0_4]) (t := 41) ?_; intro gb108 hg w8 hbox hb; refine cut4_ (below_step (bl_ HB.out) hb) (hbox) (bz_ (w := w) hg (bl_ HB.out)) (bz_ (w := w) hg (bl_ HB.out)) ?_; clear HB; intro HB BK108 GW108 GE108; clear hb hbox hg) | ((with_reducible refine gate_dst (N := 3) rfl ?_); refine bx_ (N := 3) (cs := #[.string a1_0, .slice A1_1 l1_1.length c1_1, .bool a1_2, .slice A1_3 l1_3.length c1_3, .int .i64 a1_4]) (t := 41) ?_; intro gb109 hg w9 hbox hb; refine cut7_ (bb_ BK108.out hb) (below_step (bl1_ HB.out GE108.out) hb) (hbox) (bz_ (w := w) hg (bl1_ HB.out GE108.out)) (bz_ (w := w) hg (bl1_ HB.out GE108.out)) (nl_ hg BK108.out) (ng_ hg BK108.out) ?_; clear BK108 HB; intro BK108 HB BK109 GW109 GE109 NB108_109 NB109_108; clear hb hbox hg; have hnb10 := NB108_109.out; have hnc10 := NB109_108.out; obtain ⟨hcz11_0, hcz11_1, hcz11_2, hcz11_3, hcz11_4, hfz11_0, hfz11_1, hfz11_2, hfz11_3, hfz11_4⟩ := cq5_ BK108.out; obtain ⟨hcz12_0, hcz12_1, hcz12_2, hcz12_3, hcz12_4, hfz12_0, hfz12_1, hfz12_2, hfz12_3, hfz12_4⟩ := cq5_ BK109.out) | (go_at_call 29; (with_reducible refine (hSF k _ _ l0_3 _ _ l1_3 true _ ?side1 ?side2 ?side3 ?side4 A5.out).mono ?_); (case side1 => repeat (first | exact (Kd.C_below HR0_3.out HB.out) | (with_reducible refine Kd.C_alloc ?_ _) | (with_reducible refine Kd.C_drewN ?_ _) | (with_reducible refine Kd.C_drew ?_))); (case side2 => exact HC0_3.out); (case side3 => repeat (first | exact (Kd.C_below HR1_3.out HB.out) | (with_reducible refine Kd.C_alloc ?_ _) | (with_reducible refine Kd.C_drewN ?_ _) | (with_reducible refine Kd.C_drew ?_))); (case side4 => exact HC1_3.out); rintro e w13 ⟨rfl, hb⟩; refine cut3_ (bb_ BK108.out hb) (bb_ BK109.out hb) (below_step (bl2_ HB.out GE108.out GE109.out) hb) ?_; clear BK108 BK109 HB; intro BK108 BK109 HB; (try clear hb); (try clear hb2); (try clear hk); (try clear hi); obtain ⟨hcz14_0, hcz14_1, hcz14_2, hcz14_3, hcz14_4, hfz14_0, hfz14_1, hfz14_2, hfz14_3, hfz14_4⟩ := cq5_ BK108.out; obtain ⟨hcz15_0, hcz15_1, hcz15_2, hcz15_3, hcz15_4, hfz15_0, hfz15_1, hfz15_2, hfz15_3, hfz15_4⟩ := cq5_ BK109.out) | (go_at_call 59; (with_reducible refine (api_Token.calls k _ _ l0_1 _ _ l1_1 () t111 _ ?side1 ?side2 ?side3 ?side4 A7.out).mono ?_); (case side1 => repeat (first | exact (Kd.C_below HR0_1.out HB.out) | (with_reducible refine Kd.C_alloc ?_ _) | (with_reducible refine Kd.C_drewN ?_ _) | (with_reducible refine Kd.C_drew ?_))); (case side2 => exact HC0_1.out); (case side3 => repeat (first | exact (Kd.C_below HR1_1.out HB.out) | (with_reducible refine Kd.C_alloc ?_ _) | (with_reducible refine Kd.C_drewN ?_ _) | (with_reducible refine Kd.C_drew ?_))); (case side4 => exact HC1_1.out); rintro e w16 ⟨rfl, hb⟩; refine cut3_ (bb_ BK108.out hb) (bb_ BK109.out hb) (below_step (bl2_ HB.out GE108.out GE109.out) hb) ?_; clear BK108 BK109 HB; intro BK108 BK109 HB; (try clear hb); (try clear hb2); (try clear hk); (try clear hi)))
    go_ret
    exact ⟨er_, bl2_ HB.out GE108.out GE109.out⟩
   ·
    replace c6 := Bool.eq_false_iff.mpr c6
    subst c6
    have H1 : (some false) = some r := by rw [if_neg (show ¬ (false = true) by decide)] at H; exact H
    clear H
    have H := H1
    clear H1
    obtain rfl := Option.some.inj H
    go_enter Tryd.func58, Tryd.ntmps58
    go_wp2_with (first | ((with_reducible refine gate_dst (N := 2) rfl ?_); refine bx_ (N := 2) (cs := #[.string a0_0, .slice A0_1 l0_1.length c0_1, .bool a0_2, .slice A0_3 l0_3.length c0_3, .int .i64 a0_4]) (t := 41) ?_; intro gb108 hg w17 hbox hb; refine cut4_ (below_step (bl_ HB.out) hb) (hbox) (bz_ (w := w) hg (bl_ HB.out)) (bz_ (w := w) hg (bl_ HB.out)) ?_; clear HB; intro HB BK108 GW108 GE108; clear hb hbox hg) | ((with_reducible refine gate_dst (N := 3) rfl ?_); refine bx_ (N := 3) (cs := #[.string a1_0, .slice A1_1 l1_1.length c1_1, .bool a1_2, .slice A1_3 l1_3.length c1_3, .int .i64 a1_4]) (t := 41) ?_; intro gb109 hg w18 hbox hb; refine cut7_ (bb_ BK108.out hb) (below_step (bl1_ HB.out GE108.out) hb) (hbox) (bz_ (w := w) hg (bl1_ HB.out GE108.out)) (bz_ (w := w) hg (bl1_ HB.out GE108.out)) (nl_ hg BK108.out) (ng_ hg BK108.out) ?_; clear BK108 HB; intro BK108 HB BK109 GW109 GE109 NB108_109 NB109_108; clear hb hbox hg; have hnb19 := NB108_109.out; have hnc19 := NB109_108.out; obtain ⟨hcz20_0, hcz20_1, hcz20_2, hcz20_3, hcz20_4, hfz20_0, hfz20_1, hfz20_2, hfz20_3, hfz20_4⟩ := cq5_ BK108.out; obtain ⟨hcz21_0, hcz21_1, hcz21_2, hcz21_3, hcz21_4, hfz21_0, hfz21_1, hfz21_2, hfz21_3, hfz21_4⟩ := cq5_ BK109.out) | (go_at_call 29; (with_reducible refine (hSF k _ _ l0_3 _ _ l1_3 false _ ?side1 ?side2 ?side3 ?side4 A5.out).mono ?_); (case side1 => repeat (first | exact (Kd.C_below HR0_3.out HB.out) | (with_reducible refine Kd.C_alloc ?_ _) | (with_reducible refine Kd.C_drewN ?_ _) | (with_reducible refine Kd.C_drew ?_))); (case side2 => exact HC0_3.out); (case side3 => repeat (first | exact (Kd.C_below HR1_3.out HB.out) | (with_reducible refine Kd.C_alloc ?_ _) | (with_reducible refine Kd.C_drewN ?_ _) | (with_reducible refine Kd.C_drew ?_))); (case side4 => exact HC1_3.out); rintro e w22 ⟨rfl, hb⟩; refine cut3_ (bb_ BK108.out hb) (bb_ BK109.out hb) (below_step (bl2_ HB.out GE108.out GE109.out) hb) ?_; clear BK108 BK109 HB; intro BK108 BK109 HB; (try clear hb); (try clear hb2); (try clear hk); (try clear hi)))
    go_ret
    exact ⟨er_, bl2_ HB.out GE108.out GE109.out⟩
  ·
   rw [if_neg c4] at H
   have c4b0 : (a0_2 == a1_2) = false := by simpa using c4
   (try (have c4b1 : decide (a0_2 = a1_2) = false := by simpa using c4))
   (try (have c4b2 : (a0_2 == a1_2) = false := by simpa using c4))
   (try (have c4b3 : ¬ (a0_2 = a1_2) := by simpa using c4))
   clear c4
   obtain rfl := Option.some.inj H
   go_enter Tryd.func58, Tryd.ntmps58
   go_wp2_with (first | ((with_reducible refine gate_dst (N := 2) rfl ?_); refine bx_ (N := 2) (cs := #[.string a0_0, .slice A0_1 l0_1.length c0_1, .bool a0_2, .slice A0_3 l0_3.length c0_3, .int .i64 a0_4]) (t := 41) ?_; intro gb108 hg w23 hbox hb; refine cut4_ (below_step (bl_ HB.out) hb) (hbox) (bz_ (w := w) hg (bl_ HB.out)) (bz_ (w := w) hg (bl_ HB.out)) ?_; clear HB; intro HB BK108 GW108 GE108; clear hb hbox hg) | ((with_reducible refine gate_dst (N := 3) rfl ?_); refine bx_ (N := 3) (cs := #[.string a1_0, .slice A1_1 l1_1.length c1_1, .bool a1_2, .slice A1_3 l1_3.length c1_3, .int .i64 a1_4]) (t := 41) ?_; intro gb109 hg w24 hbox hb; refine cut7_ (bb_ BK108.out hb) (below_step (bl1_ HB.out GE108.out) hb) (hbox) (bz_ (w := w) hg (bl1_ HB.out GE108.out)) (bz_ (w := w) hg (bl1_ HB.out GE108.out)) (nl_ hg BK108.out) (ng_ hg BK108.out) ?_; clear BK108 HB; intro BK108 HB BK109 GW109 GE109 NB108_109 NB109_108; clear hb hbox hg; have hnb25 := NB108_109.out; have hnc25 := NB109_108.out; obtain ⟨hcz26_0, hcz26_1, hcz26_2, hcz26_3, hcz26_4, hfz26_0, hfz26_1, hfz26_2, hfz26_3, hfz26_4⟩ := cq5_ BK108.out; obtain ⟨hcz27_0, hcz27_1, hcz27_2, hcz27_3, hcz27_4, hfz27_0, hfz27_1, hfz27_2, hfz27_3, hfz27_4⟩ := cq5_ BK109.out))
   go_ret
   exact ⟨er_, bl2_ HB.out GE108.out GE109.out⟩
 ·
  rw [if_neg c3] at H
  have c3b0 := beq_eq_false_iff_ne.mpr c3
  have c3b1 := bne_iff_ne.mpr c3
  obtain rfl := Option.some.inj H
  go_enter Tryd.func58, Tryd.ntmps58
  go_wp2_with (first | ((with_reducible refine gate_dst (N := 2) rfl ?_); refine bx_ (N := 2) (cs := #[.string a0_0, .slice A0_1 l0_1.length c0_1, .bool a0_2, .slice A0_3 l0_3.length c0_3, .int .i64 a0_4]) (t := 41) ?_; intro gb108 hg w28 hbox hb; refine cut4_ (below_step (bl_ HB.out) hb) (hbox) (bz_ (w := w) hg (bl_ HB.out)) (bz_ (w := w) hg (bl_ HB.out)) ?_; clear HB; intro HB BK108 GW108 GE108; clear hb hbox hg) | ((with_reducible refine gate_dst (N := 3) rfl ?_); refine bx_ (N := 3) (cs := #[.string a1_0, .slice A1_1 l1_1.length c1_1, .bool a1_2, .slice A1_3 l1_3.length c1_3, .int .i64 a1_4]) (t := 41) ?_; intro gb109 hg w29 hbox hb; refine cut7_ (bb_ BK108.out hb) (below_step (bl1_ HB.out GE108.out) hb) (hbox) (bz_ (w := w) hg (bl1_ HB.out GE108.out)) (bz_ (w := w) hg (bl1_ HB.out GE108.out)) (nl_ hg BK108.out) (ng_ hg BK108.out) ?_; clear BK108 HB; intro BK108 HB BK109 GW109 GE109 NB108_109 NB109_108; clear hb hbox hg; have hnb30 := NB108_109.out; have hnc30 := NB109_108.out; obtain ⟨hcz31_0, hcz31_1, hcz31_2, hcz31_3, hcz31_4, hfz31_0, hfz31_1, hfz31_2, hfz31_3, hfz31_4⟩ := cq5_ BK108.out; obtain ⟨hcz32_0, hcz32_1, hcz32_2, hcz32_3, hcz32_4, hfz32_0, hfz32_1, hfz32_2, hfz32_3, hfz32_4⟩ := cq5_ BK109.out))
  go_ret
  exact ⟨er_, bl2_ HB.out GE108.out GE109.out⟩
/-! ### api_Clause: function 57 -/
def api_Clause.l0 (HF : Nat → ByteArray → List S46 → Bool → List S41 → Int → ByteArray → List S46 → Bool → List S41 → Int → Option Bool) : Nat → List (S41) → List (S41) → Int → Int → Option (Bool)
 | 0, _, _, _, _ => none
 | k + 1, x1, x15, x16, x17 => if x17 < x16 then (if 0 ≤ x17 then (if x17 < (x15.length : Int) then (if x17 < (x1.length : Int) then ((HF k ((rd_T41 x15 x17).f0) ((rd_T41 x15 x17).f1) ((rd_T41 x15 x17).f2) ((rd_T41 x15 x17).f3) ((rd_T41 x15 x17).f4) ((rd_T41 x1 x17).f0) ((rd_T41 x1 x17).f1) ((rd_T41 x1 x17).f2) ((rd_T41 x1 x17).f3) ((rd_T41 x1 x17).f4)).bind fun t116 => (if t116 = true then (api_Clause.l0 HF k x1 x15 x16 (wrap64 (x17 + 1))) else (some false))) else (none)) else (none)) else (none)) else (some true)
def api_Clause.f (HF : Nat → ByteArray → List S46 → Bool → List S41 → Int → ByteArray → List S46 → Bool → List S41 → Int → Option Bool) (k : Nat) (l0 : List (S41)) (l1 : List (S41)) (a2 : Unit) : Option (Bool) := if (l0.length : Int) = (l1.length : Int) then (api_Clause.l0 HF k l1 l0 (l0.length : Int) 0) else (some false)
theorem api_Clause.mono_l (HF : Nat → ByteArray → List S46 → Bool → List S41 → Int → ByteArray → List S46 → Bool → List S41 → Int → Option Bool) (mHF : ∀ x0 x1 x2 x3 x4 x5 x6 x7 x8 x9 k, LeO (HF k x0 x1 x2 x3 x4 x5 x6 x7 x8 x9) (HF (k + 1) x0 x1 x2 x3 x4 x5 x6 x7 x8 x9)) : ∀ k, (∀ y0 y1 y2 y3, LeO (api_Clause.l0 HF k y0 y1 y2 y3) (api_Clause.l0 HF (k + 1) y0 y1 y2 y3))
 | 0 => fun _ _ _ _ r h => by simp [api_Clause.l0] at h
 | k + 1 => by
  have ih0 := api_Clause.mono_l HF mHF k
  ·
   intro y0 y1 y2 y3
   unfold api_Clause.l0
   repeat' first
   | (with_reducible exact LeO.refl _)
   | exact ih0 _ _ _ _
   | exact mHF _ _ _ _ _ _ _ _ _ _ _
   | exact LeO.none _
   | refine LeO.ite ?_ ?_
   | refine LeO.bind ?_ (fun _ => ?_)
theorem api_Clause.mono (HF : Nat → ByteArray → List S46 → Bool → List S41 → Int → ByteArray → List S46 → Bool → List S41 → Int → Option Bool) (mHF : ∀ x0 x1 x2 x3 x4 x5 x6 x7 x8 x9 k, LeO (HF k x0 x1 x2 x3 x4 x5 x6 x7 x8 x9) (HF (k + 1) x0 x1 x2 x3 x4 x5 x6 x7 x8 x9)) : ∀ a0 a1 a2 k, LeO (api_Clause.f HF k a0 a1 a2) (api_Clause.f HF (k + 1) a0 a1 a2) := by
 intro a0 a1 a2 k
 have ih0 := api_Clause.mono_l HF mHF k
 unfold api_Clause.f
 repeat' first
   | (with_reducible exact LeO.refl _)
   | exact ih0 _ _ _ _
   | exact mHF _ _ _ _ _ _ _ _ _ _ _
   | exact LeO.none _
   | refine LeO.ite ?_ ?_
   | refine LeO.bind ?_ (fun _ => ?_)
set_option maxHeartbeats 8000000 in
set_option maxRecDepth 100000 in
theorem api_Clause.calls (HF : Nat → ByteArray → List S46 → Bool → List S41 → Int → ByteArray → List S46 → Bool → List S41 → Int → Option Bool) (hHF : ∀ (k : Nat) (a0_0 : ByteArray) (A0_1 : Option Addr) (c0_1 : Nat) (l0_1 : List (S46)) (a0_2 : Bool) (A0_3 : Option Addr) (c0_3 : Nat) (l0_3 : List (S41)) (a0_4 : Int) (a1_0 : ByteArray) (A1_1 : Option Addr) (c1_1 : Nat) (l1_1 : List (S46)) (a1_2 : Bool) (A1_3 : Option Addr) (c1_3 : Nat) (l1_3 : List (S41)) (a1_4 : Int) (r : Bool) (w : World) (hr0_1 : Kd.C k46 w A0_1 l0_1.length l0_1) (hc0_1 : l0_1.length ≤ c0_1) (hr0_3 : Kd.C k41 w A0_3 l0_3.length l0_3) (hc0_3 : l0_3.length ≤ c0_3) (hr1_1 : Kd.C k46 w A1_1 l1_1.length l1_1) (hc1_1 : l1_1.length ≤ c1_1) (hr1_3 : Kd.C k41 w A1_3 l1_3.length l1_3) (hc1_3 : l1_3.length ≤ c1_3) (h : HF k a0_0 l0_1 a0_2 l0_3 a0_4 a1_0 l1_1 a1_2 l1_3 a1_4 = some r), Calls Tryd.prog 58 #[.agg #[.string a0_0, .slice A0_1 l0_1.length c0_1, .bool a0_2, .slice A0_3 l0_3.length c0_3, .int .i64 a0_4], .agg #[.string a1_0, .slice A1_1 l1_1.length c1_1, .bool a1_2, .slice A1_3 l1_3.length c1_3, .int .i64 a1_4]] w fun e w' => e = .returned (.bool r) ∧ Below w.heap.size w w') (k : Nat) (A0 : Option Addr) (c0 : Nat) (l0 : List (S41)) (A1 : Option Addr) (c1 : Nat) (l1 : List (S41)) (a2 : Unit) (r : Bool) (w : World) (hr0 : Kd.C k41 w A0 l0.length l0) (hc0 : l0.length ≤ c0) (hr1 : Kd.C k41 w A1 l1.length l1) (hc1 : l1.length ≤ c1) (h : api_Clause.f HF k l0 l1 a2 = some r) :
  Calls Tryd.prog 57 #[.slice A0 l0.length c0, .slice A1 l1.length c1, .func (.func 58) #[] #[]] w fun e w' => e = .returned (.bool r) ∧ Below w.heap.size w w' := by
 have hu41 := Tryd.underlying41
 have HR0 := Aside0.mk hr0
 have HC0 := Aside0.mk hc0
 clear hr0 hc0
 have HR1 := Aside0.mk hr1
 have HC1 := Aside0.mk hc1
 clear hr1 hc1
 have HB := Aside0.mk (Below.refl w.heap.size w)
 have H : (if (l0.length : Int) = (l1.length : Int) then (api_Clause.l0 HF k l1 l0 (l0.length : Int) 0) else (some false)) = some r := h
 clear h
 by_cases c4 : (l0.length : Int) = (l1.length : Int)
 ·
  rw [if_pos c4] at H
  have c4b0 := beq_iff_eq.mpr c4
  have c4b1 := bne_eq_false_iff_eq.mpr c4
  have c4b2 : (l0.length == l1.length) = true := by first | simpa using c4 | (simp at c4 ⊢; omega)
  clear c4
  have H' := Aside0.mk H
  clear H
  go_enter Tryd.func57, Tryd.ntmps57
  go_wp2
  go_loopg [17] k (fun kq v17 w' => ∃ (x17_1 : Int), v17 = .int .i64 x17_1 ∧ Aside0 (api_Clause.l0 HF kq l1 l0 (l0.length : Int) x17_1 = some r) ∧ Aside0 (kq ≤ k) ∧ Aside0 (Below w.heap.size w w'))
  case atStart => exact ⟨(0), sr_, H', ⟨Nat.le_refl _⟩, ⟨bl_ HB.out⟩⟩
  case round =>
   clear H'
   try clear c1
   try clear p2
   try clear c4
   try clear c4b0
   try clear c4b1
   try clear c4b2
   obtain ⟨x17_1, rfl, HA, HK1, HB⟩ := hrel
   cases gk with
   | zero => exact absurd HA.out (by simp [api_Clause.l0])
   | succ k1 =>
    have H := HA.out
    clear HA
    simp only [api_Clause.l0] at H
    by_cases c5 : x17_1 < (l0.length : Int)
    ·
     rw [if_pos c5] at H
     have c5b0 := decide_eq_true c5
     clear c5
     by_cases c6 : 0 ≤ x17_1
     ·
      rw [if_pos c6] at H
      have c6b0 := decide_eq_true c6
      clear c6
      by_cases c7 : x17_1 < (l0.length : Int)
      ·
       rw [if_pos c7] at H
       have c7b0 := decide_eq_true c7
       clear c7
       by_cases c8 : x17_1 < (l1.length : Int)
       ·
        rw [if_pos c8] at H
        have c8b0 := decide_eq_true c8
        clear c8
        replace H := Option.bind_eq_some_iff.mp H
        obtain ⟨t116, A90, H⟩ := H
        (try dsimp only at H)
        have A9 := Aside0.mk A90
        clear A90
        by_cases c10 : t116 = true
        ·
         subst c10
         have H1 : (api_Clause.l0 HF k1 l1 l0 (l0.length : Int) (wrap64 (x17_1 + 1))) = some r := by rw [if_pos rfl] at H; exact H
         clear H
         have H := H1
         clear H1
         have H' := Aside0.mk H
         clear H
         have p112 : 0 ≤ (x17_1 : Int) := dt_
         have q112 : x17_1 < (l0.length : Int) := dt_
         obtain ⟨ad112, A112_1, c112_1, A112_3, c112_3, e112, hx112_0, hx112_1, hx112_2, hx112_3, hx112_4, hl112_1, hi112_1, hl112_3, hi112_3⟩ := at_T41 HR0.out x17_1 p112 q112
         cases e112
         replace hx112_0 := pw_cell_below HB.out hx112_0
         replace hx112_1 := pw_cell_below HB.out hx112_1
         replace hx112_2 := pw_cell_below HB.out hx112_2
         replace hx112_3 := pw_cell_below HB.out hx112_3
         replace hx112_4 := pw_cell_below HB.out hx112_4
         have HR112_1 := Aside0.mk hi112_1
         have HC112_1 := Aside0.mk hl112_1
         clear hi112_1 hl112_1
         have HR112_3 := Aside0.mk hi112_3
         have HC112_3 := Aside0.mk hl112_3
         clear hi112_3 hl112_3
         replace p112 := eq_true p112
         replace q112 := eq_true q112
         go_wp2_with (first | ((with_reducible refine gate_dst (N := 8) rfl ?_); refine bx_ (N := 8) (cs := #[.string (⟨#[]⟩ : ByteArray), .slice none 0 0, .bool false, .slice none 0 0, .int .i64 0]) (t := 41) ?_; intro gb113 hg w11 hbox hb; refine cut4_ (below_step (bl_ HB.out) hb) (hbox) (bz_ (w := w) hg (bl_ HB.out)) (bz_ (w := w) hg (bl_ HB.out)) ?_; clear HB; intro HB BK113 GW113 GE113; clear hb hbox hg; obtain ⟨hcz12_0, hcz12_1, hcz12_2, hcz12_3, hcz12_4, hfz12_0, hfz12_1, hfz12_2, hfz12_3, hfz12_4⟩ := cq5_ BK113.out; have p114 : 0 ≤ (x17_1 : Int) := dt_; have q114 : x17_1 < (l1.length : Int) := dt_; obtain ⟨ad114, A114_1, c114_1, A114_3, c114_3, e114, hx114_0, hx114_1, hx114_2, hx114_3, hx114_4, hl114_1, hi114_1, hl114_3, hi114_3⟩ := at_T41 HR1.out x17_1 p114 q114; cases e114; have hn114_0 : ad114.block ≠ gb113 := Nat.ne_of_lt (Nat.lt_of_lt_of_le (by have := World.block_lt_of_cell? _ _ hx114_0; first | rwa [add_block] at this | exact this) GW113.out); have hn114_1 : ad114.block ≠ gb113 := Nat.ne_of_lt (Nat.lt_of_lt_of_le (by have := World.block_lt_of_cell? _ _ hx114_0; first | rwa [add_block] at this | exact this) GW113.out); have hn114_2 : ad114.block ≠ gb113 := Nat.ne_of_lt (Nat.lt_of_lt_of_le (by have := World.block_lt_of_cell? _ _ hx114_0; first | rwa [add_block] at this | exact this) GW113.out); have hn114_3 : ad114.block ≠ gb113 := Nat.ne_of_lt (Nat.lt_of_lt_of_le (by have := World.block_lt_of_cell? _ _ hx114_0; first | rwa [add_block] at this | exact this) GW113.out); have hn114_4 : ad114.block ≠ gb113 := Nat.ne_of_lt (Nat.lt_of_lt_of_le (by have := World.block_lt_of_cell? _ _ hx114_0; first | rwa [add_block] at this | exact this) GW113.out); replace hx114_0 := pw_cell_below HB.out hx114_0; replace hx114_1 := pw_cell_below HB.out hx114_1; replace hx114_2 := pw_cell_below HB.out hx114_2; replace hx114_3 := pw_cell_below HB.out hx114_3; replace hx114_4 := pw_cell_below HB.out hx114_4; have HR114_1 := Aside0.mk hi114_1; have HC114_1 := Aside0.mk hl114_1; clear hi114_1 hl114_1; have HR114_3 := Aside0.mk hi114_3; have HC114_3 := Aside0.mk hl114_3; clear hi114_3 hl114_3; replace hx114_0 := cx_ gb113 0 (.string ((rd_T41 l0 x17_1).f0)) hn114_0 hx114_0; replace hx114_1 := cx_ gb113 0 (.string ((rd_T41 l0 x17_1).f0)) hn114_0 hx114_1; replace hx114_2 := cx_ gb113 0 (.string ((rd_T41 l0 x17_1).f0)) hn114_0 hx114_2; replace hx114_3 := cx_ gb113 0 (.string ((rd_T41 l0 x17_1).f0)) hn114_0 hx114_3; replace hx114_4 := cx_ gb113 0 (.string ((rd_T41 l0 x17_1).f0)) hn114_0 hx114_4; replace hx114_0 := cx_ gb113 1 (.slice A112_1 ((rd_T41 l0 x17_1).f1).length c112_1) hn114_1 hx114_0; replace hx114_1 := cx_ gb113 1 (.slice A112_1 ((rd_T41 l0 x17_1).f1).length c112_1) hn114_1 hx114_1; replace hx114_2 := cx_ gb113 1 (.slice A112_1 ((rd_T41 l0 x17_1).f1).length c112_1) hn114_1 hx114_2; replace hx114_3 := cx_ gb113 1 (.slice A112_1 ((rd_T41 l0 x17_1).f1).length c112_1) hn114_1 hx114_3; replace hx114_4 := cx_ gb113 1 (.slice A112_1 ((rd_T41 l0 x17_1).f1).length c112_1) hn114_1 hx114_4; replace hx114_0 := cx_ gb113 2 (.bool ((rd_T41 l0 x17_1).f2)) hn114_2 hx114_0; replace hx114_1 := cx_ gb113 2 (.bool ((rd_T41 l0 x17_1).f2)) hn114_2 hx114_1; replace hx114_2 := cx_ gb113 2 (.bool ((rd_T41 l0 x17_1).f2)) hn114_2 hx114_2; replace hx114_3 := cx_ gb113 2 (.bool ((rd_T41 l0 x17_1).f2)) hn114_2 hx114_3; replace hx114_4 := cx_ gb113 2 (.bool ((rd_T41 l0 x17_1).f2)) hn114_2 hx114_4; replace hx114_0 := cx_ gb113 3 (.slice A112_3 ((rd_T41 l0 x17_1).f3).length c112_3) hn114_3 hx114_0; replace hx114_1 := cx_ gb113 3 (.slice A112_3 ((rd_T41 l0 x17_1).f3).length c112_3) hn114_3 hx114_1; replace hx114_2 := cx_ gb113 3 (.slice A112_3 ((rd_T41 l0 x17_1).f3).length c112_3) hn114_3 hx114_2; replace hx114_3 := cx_ gb113 3 (.slice A112_3 ((rd_T41 l0 x17_1).f3).length c112_3) hn114_3 hx114_3; replace hx114_4 := cx_ gb113 3 (.slice A112_3 ((rd_T41 l0 x17_1).f3).length c112_3) hn114_3 hx114_4; replace hx114_0 := cx_ gb113 4 (.int .i64 ((rd_T41 l0 x17_1).f4)) hn114_4 hx114_0; replace hx114_1 := cx_ gb113 4 (.int .i64 ((rd_T41 l0 x17_1).f4)) hn114_4 hx114_1; replace hx114_2 := cx_ gb113 4 (.int .i64 ((rd_T41 l0 x17_1).f4)) hn114_4 hx114_2; replace hx114_3 := cx_ gb113 4 (.int .i64 ((rd_T41 l0 x17_1).f4)) hn114_4 hx114_3; replace hx114_4 := cx_ gb113 4 (.int .i64 ((rd_T41 l0 x17_1).f4)) hn114_4 hx114_4; clear hn114_0; clear hn114_1; clear hn114_2; clear hn114_3; clear hn114_4; replace p114 := eq_true p114; replace q114 := eq_true q114) | ((with_reducible refine gate_dst (N := 9) rfl ?_); refine bx_ (N := 9) (cs := #[.string (⟨#[]⟩ : ByteArray), .slice none 0 0, .bool false, .slice none 0 0, .int .i64 0]) (t := 41) ?_; intro gb115 hg w13 hbox hb; refine cut7_ (blk_below (g := gb113) (o := .cells #[.string ((rd_T41 l0 x17_1).f0), .slice A112_1 ((rd_T41 l0 x17_1).f1).length c112_1, .bool ((rd_T41 l0 x17_1).f2), .slice A112_3 ((rd_T41 l0 x17_1).f3).length c112_3, .int .i64 ((rd_T41 l0 x17_1).f4)] 41 (0, 0)) (put5_ (bk_ BK113.out)) hb) (below_step (bl1_ HB.out GE113.out) hb) (hbox) (bz_ (w := w) hg (bl1_ HB.out GE113.out)) (bz_ (w := w) hg (bl1_ HB.out GE113.out)) ((by rw [hg]; exact Nat.ne_of_lt (blk_lt (g := gb113) (o := .cells #[.string ((rd_T41 l0 x17_1).f0), .slice A112_1 ((rd_T41 l0 x17_1).f1).length c112_1, .bool ((rd_T41 l0 x17_1).f2), .slice A112_3 ((rd_T41 l0 x17_1).f3).length c112_3, .int .i64 ((rd_T41 l0 x17_1).f4)] 41 (0, 0)) (by exact put5_ (bk_ BK113.out))) : gb113 ≠ gb115)) ((by rw [hg]; exact Nat.ne_of_gt (blk_lt (g := gb113) (o := .cells #[.string ((rd_T41 l0 x17_1).f0), .slice A112_1 ((rd_T41 l0 x17_1).f1).length c112_1, .bool ((rd_T41 l0 x17_1).f2), .slice A112_3 ((rd_T41 l0 x17_1).f3).length c112_3, .int .i64 ((rd_T41 l0 x17_1).f4)] 41 (0, 0)) (by exact put5_ (bk_ BK113.out))) : gb115 ≠ gb113)) ?_; clear BK113 HB; intro BK113 HB BK115 GW115 GE115 NB113_115 NB115_113; clear hb hbox hg; have hnb14 := NB115_113.out; have hnc14 := NB113_115.out; obtain ⟨hcz15_0, hcz15_1, hcz15_2, hcz15_3, hcz15_4, hfz15_0, hfz15_1, hfz15_2, hfz15_3, hfz15_4⟩ := cq5_ BK115.out; obtain ⟨hcz16_0, hcz16_1, hcz16_2, hcz16_3, hcz16_4, hfz16_0, hfz16_1, hfz16_2, hfz16_3, hfz16_4⟩ := cq5_ BK113.out) | ((with_reducible refine (hHF k1 ((rd_T41 l0 x17_1).f0) _ _ ((rd_T41 l0 x17_1).f1) ((rd_T41 l0 x17_1).f2) _ _ ((rd_T41 l0 x17_1).f3) ((rd_T41 l0 x17_1).f4) ((rd_T41 l1 x17_1).f0) _ _ ((rd_T41 l1 x17_1).f1) ((rd_T41 l1 x17_1).f2) _ _ ((rd_T41 l1 x17_1).f3) ((rd_T41 l1 x17_1).f4) true _ ?side1 ?side2 ?side3 ?side4 ?side5 ?side6 ?side7 ?side8 A9.out).mono ?_); (case side1 => exact Kd.C_below HR112_1.out (bl2_ HB.out GE113.out GE115.out)); (case side2 => exact HC112_1.out); (case side3 => exact Kd.C_below HR112_3.out (bl2_ HB.out GE113.out GE115.out)); (case side4 => exact HC112_3.out); (case side5 => exact Kd.C_below HR114_1.out (bl2_ HB.out GE113.out GE115.out)); (case side6 => exact HC114_1.out); (case side7 => exact Kd.C_below HR114_3.out (bl2_ HB.out GE113.out GE115.out)); (case side8 => exact HC114_3.out); rintro e w17 ⟨rfl, hb⟩; refine cut3_ (blk_below (g := gb113) (o := .cells #[.string ((rd_T41 l0 x17_1).f0), .slice A112_1 ((rd_T41 l0 x17_1).f1).length c112_1, .bool ((rd_T41 l0 x17_1).f2), .slice A112_3 ((rd_T41 l0 x17_1).f3).length c112_3, .int .i64 ((rd_T41 l0 x17_1).f4)] 41 (0, 0)) (far5_ (bk_ BK113.out) NB113_115.out) hb) (blk_below (g := gb115) (o := .cells #[.string ((rd_T41 l1 x17_1).f0), .slice A114_1 ((rd_T41 l1 x17_1).f1).length c114_1, .bool ((rd_T41 l1 x17_1).f2), .slice A114_3 ((rd_T41 l1 x17_1).f3).length c114_3, .int .i64 ((rd_T41 l1 x17_1).f4)] 41 (0, 0)) (put5_ (bk_ BK115.out)) hb) (below_step (bl2_ HB.out GE113.out GE115.out) hb) ?_; clear BK113 BK115 HB; intro BK113 BK115 HB; (try clear hb); (try clear hb2); (try clear hk); (try clear hi)))
         go_roundg k1
         case measure => have := HK1.out; omega
         case rel => exact ⟨(wrap64 (x17_1 + 1)), sr_, H', ⟨by have := HK1.out; omega⟩, ⟨bl2_ HB.out GE113.out GE115.out⟩⟩
        ·
         replace c10 := Bool.eq_false_iff.mpr c10
         subst c10
         have H1 : (some false) = some r := by rw [if_neg (show ¬ (false = true) by decide)] at H; exact H
         clear H
         have H := H1
         clear H1
         obtain rfl := Option.some.inj H
         have p112 : 0 ≤ (x17_1 : Int) := dt_
         have q112 : x17_1 < (l0.length : Int) := dt_
         obtain ⟨ad112, A112_1, c112_1, A112_3, c112_3, e112, hx112_0, hx112_1, hx112_2, hx112_3, hx112_4, hl112_1, hi112_1, hl112_3, hi112_3⟩ := at_T41 HR0.out x17_1 p112 q112
         cases e112
         replace hx112_0 := pw_cell_below HB.out hx112_0
         replace hx112_1 := pw_cell_below HB.out hx112_1
         replace hx112_2 := pw_cell_below HB.out hx112_2
         replace hx112_3 := pw_cell_below HB.out hx112_3
         replace hx112_4 := pw_cell_below HB.out hx112_4
         have HR112_1 := Aside0.mk hi112_1
         have HC112_1 := Aside0.mk hl112_1
         clear hi112_1 hl112_1
         have HR112_3 := Aside0.mk hi112_3
         have HC112_3 := Aside0.mk hl112_3
         clear hi112_3 hl112_3
         replace p112 := eq_true p112
         replace q112 := eq_true q112
         go_wp2_with (first | ((with_reducible refine gate_dst (N := 8) rfl ?_); refine bx_ (N := 8) (cs := #[.string (⟨#[]⟩ : ByteArray), .slice none 0 0, .bool false, .slice none 0 0, .int .i64 0]) (t := 41) ?_; intro gb113 hg w18 hbox hb; refine cut4_ (below_step (bl_ HB.out) hb) (hbox) (bz_ (w := w) hg (bl_ HB.out)) (bz_ (w := w) hg (bl_ HB.out)) ?_; clear HB; intro HB BK113 GW113 GE113; clear hb hbox hg; obtain ⟨hcz19_0, hcz19_1, hcz19_2, hcz19_3, hcz19_4, hfz19_0, hfz19_1, hfz19_2, hfz19_3, hfz19_4⟩ := cq5_ BK113.out; have p114 : 0 ≤ (x17_1 : Int) := dt_; have q114 : x17_1 < (l1.length : Int) := dt_; obtain ⟨ad114, A114_1, c114_1, A114_3, c114_3, e114, hx114_0, hx114_1, hx114_2, hx114_3, hx114_4, hl114_1, hi114_1, hl114_3, hi114_3⟩ := at_T41 HR1.out x17_1 p114 q114; cases e114; have hn114_0 : ad114.block ≠ gb113 := Nat.ne_of_lt (Nat.lt_of_lt_of_le (by have := World.block_lt_of_cell? _ _ hx114_0; first | rwa [add_block] at this | exact this) GW113.out); have hn114_1 : ad114.block ≠ gb113 := Nat.ne_of_lt (Nat.lt_of_lt_of_le (by have := World.block_lt_of_cell? _ _ hx114_0; first | rwa [add_block] at this | exact this) GW113.out); have hn114_2 : ad114.block ≠ gb113 := Nat.ne_of_lt (Nat.lt_of_lt_of_le (by have := World.block_lt_of_cell? _ _ hx114_0; first | rwa [add_block] at this | exact this) GW113.out); have hn114_3 : ad114.block ≠ gb113 := Nat.ne_of_lt (Nat.lt_of_lt_of_le (by have := World.block_lt_of_cell? _ _ hx114_0; first | rwa [add_block] at this | exact this) GW113.out); have hn114_4 : ad114.block ≠ gb113 := Nat.ne_of_lt (Nat.lt_of_lt_of_le (by have := World.block_lt_of_cell? _ _ hx114_0; first | rwa [add_block] at this | exact this) GW113.out); replace hx114_0 := pw_cell_below HB.out hx114_0; replace hx114_1 := pw_cell_below HB.out hx114_1; replace hx114_2 := pw_cell_below HB.out hx114_2; replace hx114_3 := pw_cell_below HB.out hx114_3; replace hx114_4 := pw_cell_below HB.out hx114_4; have HR114_1 := Aside0.mk hi114_1; have HC114_1 := Aside0.mk hl114_1; clear hi114_1 hl114_1; have HR114_3 := Aside0.mk hi114_3; have HC114_3 := Aside0.mk hl114_3; clear hi114_3 hl114_3; replace hx114_0 := cx_ gb113 0 (.string ((rd_T41 l0 x17_1).f0)) hn114_0 hx114_0; replace hx114_1 := cx_ gb113 0 (.string ((rd_T41 l0 x17_1).f0)) hn114_0 hx114_1; replace hx114_2 := cx_ gb113 0 (.string ((rd_T41 l0 x17_1).f0)) hn114_0 hx114_2; replace hx114_3 := cx_ gb113 0 (.string ((rd_T41 l0 x17_1).f0)) hn114_0 hx114_3; replace hx114_4 := cx_ gb113 0 (.string ((rd_T41 l0 x17_1).f0)) hn114_0 hx114_4; replace hx114_0 := cx_ gb113 1 (.slice A112_1 ((rd_T41 l0 x17_1).f1).length c112_1) hn114_1 hx114_0; replace hx114_1 := cx_ gb113 1 (.slice A112_1 ((rd_T41 l0 x17_1).f1).length c112_1) hn114_1 hx114_1; replace hx114_2 := cx_ gb113 1 (.slice A112_1 ((rd_T41 l0 x17_1).f1).length c112_1) hn114_1 hx114_2; replace hx114_3 := cx_ gb113 1 (.slice A112_1 ((rd_T41 l0 x17_1).f1).length c112_1) hn114_1 hx114_3; replace hx114_4 := cx_ gb113 1 (.slice A112_1 ((rd_T41 l0 x17_1).f1).length c112_1) hn114_1 hx114_4; replace hx114_0 := cx_ gb113 2 (.bool ((rd_T41 l0 x17_1).f2)) hn114_2 hx114_0; replace hx114_1 := cx_ gb113 2 (.bool ((rd_T41 l0 x17_1).f2)) hn114_2 hx114_1; replace hx114_2 := cx_ gb113 2 (.bool ((rd_T41 l0 x17_1).f2)) hn114_2 hx114_2; replace hx114_3 := cx_ gb113 2 (.bool ((rd_T41 l0 x17_1).f2)) hn114_2 hx114_3; replace hx114_4 := cx_ gb113 2 (.bool ((rd_T41 l0 x17_1).f2)) hn114_2 hx114_4; replace hx114_0 := cx_ gb113 3 (.slice A112_3 ((rd_T41 l0 x17_1).f3).length c112_3) hn114_3 hx114_0; replace hx114_1 := cx_ gb113 3 (.slice A112_3 ((rd_T41 l0 x17_1).f3).length c112_3) hn114_3 hx114_1; replace hx114_2 := cx_ gb113 3 (.slice A112_3 ((rd_T41 l0 x17_1).f3).length c112_3) hn114_3 hx114_2; replace hx114_3 := cx_ gb113 3 (.slice A112_3 ((rd_T41 l0 x17_1).f3).length c112_3) hn114_3 hx114_3; replace hx114_4 := cx_ gb113 3 (.slice A112_3 ((rd_T41 l0 x17_1).f3).length c112_3) hn114_3 hx114_4; replace hx114_0 := cx_ gb113 4 (.int .i64 ((rd_T41 l0 x17_1).f4)) hn114_4 hx114_0; replace hx114_1 := cx_ gb113 4 (.int .i64 ((rd_T41 l0 x17_1).f4)) hn114_4 hx114_1; replace hx114_2 := cx_ gb113 4 (.int .i64 ((rd_T41 l0 x17_1).f4)) hn114_4 hx114_2; replace hx114_3 := cx_ gb113 4 (.int .i64 ((rd_T41 l0 x17_1).f4)) hn114_4 hx114_3; replace hx114_4 := cx_ gb113 4 (.int .i64 ((rd_T41 l0 x17_1).f4)) hn114_4 hx114_4; clear hn114_0; clear hn114_1; clear hn114_2; clear hn114_3; clear hn114_4; replace p114 := eq_true p114; replace q114 := eq_true q114) | ((with_reducible refine gate_dst (N := 9) rfl ?_); refine bx_ (N := 9) (cs := #[.string (⟨#[]⟩ : ByteArray), .slice none 0 0, .bool false, .slice none 0 0, .int .i64 0]) (t := 41) ?_; intro gb115 hg w20 hbox hb; refine cut7_ (blk_below (g := gb113) (o := .cells #[.string ((rd_T41 l0 x17_1).f0), .slice A112_1 ((rd_T41 l0 x17_1).f1).length c112_1, .bool ((rd_T41 l0 x17_1).f2), .slice A112_3 ((rd_T41 l0 x17_1).f3).length c112_3, .int .i64 ((rd_T41 l0 x17_1).f4)] 41 (0, 0)) (put5_ (bk_ BK113.out)) hb) (below_step (bl1_ HB.out GE113.out) hb) (hbox) (bz_ (w := w) hg (bl1_ HB.out GE113.out)) (bz_ (w := w) hg (bl1_ HB.out GE113.out)) ((by rw [hg]; exact Nat.ne_of_lt (blk_lt (g := gb113) (o := .cells #[.string ((rd_T41 l0 x17_1).f0), .slice A112_1 ((rd_T41 l0 x17_1).f1).length c112_1, .bool ((rd_T41 l0 x17_1).f2), .slice A112_3 ((rd_T41 l0 x17_1).f3).length c112_3, .int .i64 ((rd_T41 l0 x17_1).f4)] 41 (0, 0)) (by exact put5_ (bk_ BK113.out))) : gb113 ≠ gb115)) ((by rw [hg]; exact Nat.ne_of_gt (blk_lt (g := gb113) (o := .cells #[.string ((rd_T41 l0 x17_1).f0), .slice A112_1 ((rd_T41 l0 x17_1).f1).length c112_1, .bool ((rd_T41 l0 x17_1).f2), .slice A112_3 ((rd_T41 l0 x17_1).f3).length c112_3, .int .i64 ((rd_T41 l0 x17_1).f4)] 41 (0, 0)) (by exact put5_ (bk_ BK113.out))) : gb115 ≠ gb113)) ?_; clear BK113 HB; intro BK113 HB BK115 GW115 GE115 NB113_115 NB115_113; clear hb hbox hg; have hnb21 := NB115_113.out; have hnc21 := NB113_115.out; obtain ⟨hcz22_0, hcz22_1, hcz22_2, hcz22_3, hcz22_4, hfz22_0, hfz22_1, hfz22_2, hfz22_3, hfz22_4⟩ := cq5_ BK115.out; obtain ⟨hcz23_0, hcz23_1, hcz23_2, hcz23_3, hcz23_4, hfz23_0, hfz23_1, hfz23_2, hfz23_3, hfz23_4⟩ := cq5_ BK113.out) | ((with_reducible refine (hHF k1 ((rd_T41 l0 x17_1).f0) _ _ ((rd_T41 l0 x17_1).f1) ((rd_T41 l0 x17_1).f2) _ _ ((rd_T41 l0 x17_1).f3) ((rd_T41 l0 x17_1).f4) ((rd_T41 l1 x17_1).f0) _ _ ((rd_T41 l1 x17_1).f1) ((rd_T41 l1 x17_1).f2) _ _ ((rd_T41 l1 x17_1).f3) ((rd_T41 l1 x17_1).f4) false _ ?side1 ?side2 ?side3 ?side4 ?side5 ?side6 ?side7 ?side8 A9.out).mono ?_); (case side1 => exact Kd.C_below HR112_1.out (bl2_ HB.out GE113.out GE115.out)); (case side2 => exact HC112_1.out); (case side3 => exact Kd.C_below HR112_3.out (bl2_ HB.out GE113.out GE115.out)); (case side4 => exact HC112_3.out); (case side5 => exact Kd.C_below HR114_1.out (bl2_ HB.out GE113.out GE115.out)); (case side6 => exact HC114_1.out); (case side7 => exact Kd.C_below HR114_3.out (bl2_ HB.out GE113.out GE115.out)); (case side8 => exact HC114_3.out); rintro e w24 ⟨rfl, hb⟩; refine cut3_ (blk_below (g := gb113) (o := .cells #[.string ((rd_T41 l0 x17_1).f0), .slice A112_1 ((rd_T41 l0 x17_1).f1).length c112_1, .bool ((rd_T41 l0 x17_1).f2), .slice A112_3 ((rd_T41 l0 x17_1).f3).length c112_3, .int .i64 ((rd_T41 l0 x17_1).f4)] 41 (0, 0)) (far5_ (bk_ BK113.out) NB113_115.out) hb) (blk_below (g := gb115) (o := .cells #[.string ((rd_T41 l1 x17_1).f0), .slice A114_1 ((rd_T41 l1 x17_1).f1).length c114_1, .bool ((rd_T41 l1 x17_1).f2), .slice A114_3 ((rd_T41 l1 x17_1).f3).length c114_3, .int .i64 ((rd_T41 l1 x17_1).f4)] 41 (0, 0)) (put5_ (bk_ BK115.out)) hb) (below_step (bl2_ HB.out GE113.out GE115.out) hb) ?_; clear BK113 BK115 HB; intro BK113 BK115 HB; (try clear hb); (try clear hb2); (try clear hk); (try clear hi)))
         go_ret
         exact ⟨er_, bl2_ HB.out GE113.out GE115.out⟩
       ·
        rw [if_neg c8] at H
        exact absurd H (by simp)
      ·
       rw [if_neg c7] at H
       exact absurd H (by simp)
     ·
      rw [if_neg c6] at H
      exact absurd H (by simp)
    ·
     rw [if_neg c5] at H
     have c5b0 := decide_eq_false c5
     clear c5
     obtain rfl := Option.some.inj H
     go_wp2
     go_ret
     exact ⟨er_, bl_ HB.out⟩
 ·
  rw [if_neg c4] at H
  have c4b0 := beq_eq_false_iff_ne.mpr c4
  have c4b1 := bne_iff_ne.mpr c4
  have c4b2 : (l0.length == l1.length) = false := by first | simpa using c4 | (simp at c4 ⊢; omega)
  obtain rfl := Option.some.inj H
  go_enter Tryd.func57, Tryd.ntmps57
  go_wp2
  go_ret
  exact ⟨er_, bl_ HB.out⟩
end Go.Proofs.YtkifdadhojbohaaDoor.Pr
namespace Go.Proofs.YtkifdadhojbohaaDoor.Pr
open Go.Proofs.YtkifdadhojbohaaDoor
open Go.RowKit Go.Proofs.YtkifdadhojbohaaDoorW.PrintWords Go.Proofs.YtkifdadhojbohaaDoorW.PrintLast Go.Proofs.YtkifdadhojbohaaDoorW.PrintMore
/-- slices.EqualFunc of clauses, where Same is SF. -/
def eqfS (SF : Nat → List S41 → List S41 → Option Bool) (j : Nat) (a b : List S41) (u : Unit) : Option Bool := api_Clause.f (fun i x0 x1 x2 x3 x4 x5 x6 x7 x8 x9 => parser_Same_1.f SF i x0 x1 x2 x3 x4 x5 x6 x7 x8 x9) j a b u
/-- Same, with calls up to the depth d. -/
def samT : Nat → (Nat → List S41 → List S41 → Option Bool)
 | 0 => fun _ _ _ => none
 | d + 1 => fun k a b => parser_Same.f (eqfS (samT d)) k a b
theorem samT_calls : ∀ (d : Nat) (k : Nat) (A0 : Option Addr) (c0 : Nat) (l0 : List (S41)) (A1 : Option Addr) (c1 : Nat) (l1 : List (S41)) (r : Bool) (w : World) (_ : Kd.C k41 w A0 l0.length l0) (_ : l0.length ≤ c0) (_ : Kd.C k41 w A1 l1.length l1) (_ : l1.length ≤ c1) (_ : samT d k l0 l1 = some r),
  Calls Tryd.prog 29 #[.slice A0 l0.length c0, .slice A1 l1.length c1] w fun e w' => e = .returned (.bool r) ∧ Below w.heap.size w w' := by
 intro d
 induction d with
 | zero => intro k A0 c0 l0 A1 c1 l1 r w _ _ _ _ h; cases h
 | succ d ih =>
  intro k A0 c0 l0 A1 c1 l1 r w h1 h2 h3 h4 h
  exact parser_Same.calls _ (fun k A0 c0 l0 A1 c1 l1 a2 r w h1 h2 h3 h4 h => api_Clause.calls _ (fun k a0_0 A0_1 c0_1 l0_1 a0_2 A0_3 c0_3 l0_3 a0_4 a1_0 A1_1 c1_1 l1_1 a1_2 A1_3 c1_3 l1_3 a1_4 r w g1 g2 g3 g4 g5 g6 g7 g8 g => parser_Same_1.calls (samT d) ih k a0_0 A0_1 c0_1 l0_1 a0_2 A0_3 c0_3 l0_3 a0_4 a1_0 A1_1 c1_1 l1_1 a1_2 A1_3 c1_3 l1_3 a1_4 r w g1 g2 g3 g4 g5 g6 g7 g8 g) k A0 c0 l0 A1 c1 l1 a2 r w h1 h2 h3 h4 h) k A0 c0 l0 A1 c1 l1 r w h1 h2 h3 h4 h
theorem same1_leF (QF QG : Nat → List S41 → List S41 → Option Bool) (h : ∀ k a b, LeO (QF k a b) (QG k a b)) (k : Nat) (x0 : ByteArray) (x1 : List S46) (x2 : Bool) (x3 : List S41) (x4 : Int) (x5 : ByteArray) (x6 : List S46) (x7 : Bool) (x8 : List S41) (x9 : Int) :
  LeO (parser_Same_1.f QF k x0 x1 x2 x3 x4 x5 x6 x7 x8 x9) (parser_Same_1.f QG k x0 x1 x2 x3 x4 x5 x6 x7 x8 x9) := by
 unfold parser_Same_1.f
 repeat' first
  | exact h _ _ _
  | exact LeO.refl _
  | exact LeO.none _
  | refine LeO.ite ?_ ?_
  | refine LeO.bind ?_ (fun _ => ?_)
theorem clause_le (RF RG : Nat → ByteArray → List S46 → Bool → List S41 → Int → ByteArray → List S46 → Bool → List S41 → Int → Option Bool) (h : ∀ k x0 x1 x2 x3 x4 x5 x6 x7 x8 x9, LeO (RF k x0 x1 x2 x3 x4 x5 x6 x7 x8 x9) (RG k x0 x1 x2 x3 x4 x5 x6 x7 x8 x9)) : ∀ k y0 y1 y2 y3, LeO (api_Clause.l0 RF k y0 y1 y2 y3) (api_Clause.l0 RG k y0 y1 y2 y3)
 | 0 => fun _ _ _ _ r h => by simp [api_Clause.l0] at h
 | k + 1 => by
  have ih := clause_le RF RG h k
  intro y0 y1 y2 y3
  simp only [api_Clause.l0]
  repeat' first
   | exact h _ _ _ _ _ _ _ _ _ _ _
   | exact ih _ _ _ _
   | exact LeO.refl _
   | exact LeO.none _
   | refine LeO.ite ?_ ?_
   | refine LeO.bind ?_ (fun _ => ?_)
theorem eqfS_le (QF QG : Nat → List S41 → List S41 → Option Bool) (h : ∀ k a b, LeO (QF k a b) (QG k a b)) (k : Nat) (a b : List S41) (u : Unit) : LeO (eqfS QF k a b u) (eqfS QG k a b u) := by
 unfold eqfS api_Clause.f
 repeat' first
  | exact clause_le _ _ (fun k x0 x1 x2 x3 x4 x5 x6 x7 x8 x9 => same1_leF QF QG h k x0 x1 x2 x3 x4 x5 x6 x7 x8 x9) k _ _ _ _
  | exact LeO.refl _
  | exact LeO.none _
  | refine LeO.ite ?_ ?_
theorem samT_deep : ∀ (d k : Nat) (a b : List S41), LeO (samT d k a b) (samT (d + 1) k a b)
 | 0, k, a, b => fun r h => by cases h
 | d + 1, k, a, b => LeO.bind (eqfS_le (samT d) (samT (d + 1)) (fun k a b => samT_deep d k a b) k a b ()) (fun _ => LeO.refl _)
theorem samT_mono : ∀ (d : Nat) (a b : List S41) (k : Nat), LeO (samT d k a b) (samT d (k + 1) a b)
 | 0, a, b, k => fun r h => by cases h
 | d + 1, a, b, k => parser_Same.mono _ (fun a b u k => api_Clause.mono _ (fun x0 x1 x2 x3 x4 x5 x6 x7 x8 x9 k => parser_Same_1.mono (samT d) (fun a b k => samT_mono d a b k) x0 x1 x2 x3 x4 x5 x6 x7 x8 x9 k) a b u k) a b k
/-- The parser's Same. -/
def pSame.f (k : Nat) (a b : List S41) : Option Bool := samT k k a b
theorem pSame.mono : ∀ a b k, LeO (pSame.f k a b) (pSame.f (k + 1) a b) := fun a b k r h => samT_deep k (k + 1) a b r (samT_mono k a b k r h)
theorem pSame.calls (k : Nat) (A0 : Option Addr) (c0 : Nat) (l0 : List (S41)) (A1 : Option Addr) (c1 : Nat) (l1 : List (S41)) (r : Bool) (w : World) (hr0 : Kd.C k41 w A0 l0.length l0) (hc0 : l0.length ≤ c0) (hr1 : Kd.C k41 w A1 l1.length l1) (hc1 : l1.length ≤ c1) (h : pSame.f k l0 l1 = some r) :
  Calls Tryd.prog 29 #[.slice A0 l0.length c0, .slice A1 l1.length c1] w fun e w' => e = .returned (.bool r) ∧ Below w.heap.size w w' := samT_calls k k A0 c0 l0 A1 c1 l1 r w hr0 hc0 hr1 hc1 h
end Go.Proofs.YtkifdadhojbohaaDoor.Pr
namespace Go.Proofs.YtkifdadhojbohaaDoor.Pu
open Go.RowKit Go.Proofs.YtkifdadhojbohaaDoor Go.Proofs.YtkifdadhojbohaaDoor.Pr Go.Proofs.YtkifdadhojbohaaDoorW.PrintWords Go.Proofs.YtkifdadhojbohaaDoorW.PrintLast Go.Proofs.YtkifdadhojbohaaDoorW.PrintMore
/-- A token, without its offset if p is false. -/
def keyT (p : Bool) (t : S46) : S46 := ⟨t.f0, t.f1, t.f2, if p = true then t.f3 else 0⟩
inductive SmL (p : Bool) : List S41 → List S41 → Prop
  | nil : SmL p [] []
  | cons (c d : S41) (a b : List S41) : c.f0 = d.f0 → c.f2 = d.f2 → c.f1.map (keyT p) = d.f1.map (keyT p) → (p = true → c.f4 = d.f4) → c.f1.length ≤ 1000000 → a.length < 1000000 → SmL p c.f3 d.f3 → SmL p a b → SmL p (c :: a) (d :: b)
theorem SmL.length {p : Bool} {a b : List S41} (h : SmL p a b) : a.length = b.length ∧ a.length ≤ 1000000 := by
  induction h with
  | nil => simp
  | cons c d a b _ _ _ _ _ hl _ _ _ ih => simp; omega
theorem rd41_at {T : List S41} {i : Nat} {t : S41} {r : List S41} (h : T.drop i = t :: r) : i < T.length ∧ rd_T41 T (i : Int) = t ∧ T.drop (i + 1) = r := by
  have hi : i < T.length := by
    apply Classical.byContradiction
    intro hn
    rw [List.drop_eq_nil_of_le (by omega)] at h
    cases h
  refine ⟨hi, ?_, ?_⟩
  · have := congrArg (·[0]?) h
    simp only [List.getElem?_drop, Nat.add_zero, List.getElem?_cons_zero] at this
    simp [rd_T41, List.getD_eq_getElem?_getD, this]
  · rw [← List.drop_drop, h]; rfl
theorem key_rd (p : Bool) {a b : List S46} (h : a.map (keyT p) = b.map (keyT p)) (i : Int) : keyT p (rd_T46 a i) = keyT p (rd_T46 b i) := by
  have e : ∀ l : List S46, keyT p (rd_T46 l i) = ((l.map (keyT p))[i.toNat]?).getD (keyT p z46) := by
    intro l
    unfold rd_T46
    rw [List.getD_eq_getElem?_getD, List.getElem?_map]
    cases l[i.toNat]? <;> rfl
  rw [e, e, h]
theorem key_f {p : Bool} {s t : S46} (h : keyT p s = keyT p t) : s.f0 = t.f0 ∧ s.f1 = t.f1 ∧ s.f2 = t.f2 ∧ (p = true → s.f3 = t.f3) := by
  unfold keyT at h
  injection h with h0 h1 h2 h3
  refine ⟨h0, h1, h2, fun hp => ?_⟩
  subst hp
  simpa using h3
/-! ### the program's Same -/
theorem token_f (a b : List S46) (h : a.map (keyT false) = b.map (keyT false)) (ha : a.length ≤ 1000000) : Ev (fun k => api_Token.f k a b ()) true := by
  have hl : a.length = b.length := by simpa using congrArg List.length h
  have loop : ∀ (d i : Nat), i ≤ a.length → a.length - i = d → Ev (fun k => api_Token.l0 k b a (a.length : Int) (i : Int)) true := by
    intro d
    induction d with
    | zero =>
      intro i hi hd
      refine Ev.succ ?_
      simp only [api_Token.l0]
      exact Ev.ifn (by omega) (Ev.now _)
    | succ d ih =>
      intro i hi hd
      obtain ⟨k0, k1, k2, k3⟩ := key_f (key_rd false h (i : Int))
      refine Ev.succ ?_
      simp only [api_Token.l0, parser_Same_1_1.f, k0, k1, k2]
      rw [wrap_nat i (by omega)]
      refine Ev.ifp (by omega) (Ev.ifp natO (Ev.ifp (by omega) (Ev.ifp (by omega) ?_)))
      refine Ev.val (a := true) (by simp) (Ev.ifp rfl (ih (i + 1) (by omega) (by omega)))
  unfold api_Token.f
  exact Ev.ifp (by omega) (loop a.length 0 (by omega) (by omega))
abbrev smR (d : Nat) : Nat → ByteArray → List S46 → Bool → List S41 → Int → ByteArray → List S46 → Bool → List S41 → Int → Option Bool := fun i x0 x1 x2 x3 x4 x5 x6 x7 x8 x9 => parser_Same_1.f (samT d) i x0 x1 x2 x3 x4 x5 x6 x7 x8 x9
theorem same1_ev (QF : Nat → List S41 → List S41 → Option Bool) (c d : S41) (h0 : c.f0 = d.f0) (h2 : c.f2 = d.f2) (h1 : c.f1.map (keyT false) = d.f1.map (keyT false)) (hl : c.f1.length ≤ 1000000)
    (hQ : Ev (fun k => QF k c.f3 d.f3) true) : Ev (fun k => parser_Same_1.f QF k c.f0 c.f1 c.f2 c.f3 c.f4 d.f0 d.f1 d.f2 d.f3 d.f4) true := by
  simp only [parser_Same_1.f]
  exact Ev.ifp (by rw [h0]) (Ev.ifp (by simp [h2]) (Ev.bind hQ (Ev.ifp rfl (Ev.bind (token_f _ _ h1 hl) (Ev.now _)))))
theorem clause_loop {a b : List S41} (h : SmL false a b) : ∃ D, ∀ d, D ≤ d → ∀ (A B : List S41) (i : Nat), A.drop i = a → B.drop i = b → A.length = B.length → A.length ≤ 1000000 → i ≤ A.length → Ev (fun k => api_Clause.l0 (smR d) k B A (A.length : Int) (i : Int)) true := by
  induction h with
  | nil =>
    refine ⟨0, fun d _ A B i hA hB hl hn hi => ?_⟩
    have : A.length ≤ i := by
      have := congrArg List.length hA
      rw [List.length_drop] at this
      simp at this; omega
    refine Ev.succ ?_
    simp only [api_Clause.l0]
    exact Ev.ifn (by omega) (Ev.now _)
  | cons c d a b h0 h2 h1 h4 hl1 hl2 hk hr ihk ihr =>
    obtain ⟨D1, g1⟩ := ihk
    obtain ⟨D2, g2⟩ := ihr
    refine ⟨max (D1 + 1) D2, fun e he A B i hA hB hl hn hi => ?_⟩
    obtain ⟨a1, a2, a3⟩ := rd41_at hA
    obtain ⟨b1, b2, b3⟩ := rd41_at hB
    obtain ⟨e', rfl⟩ : ∃ e', e = e' + 1 := ⟨e - 1, by omega⟩
    refine Ev.succ ?_
    simp only [api_Clause.l0, a2, b2]
    refine Ev.ifp (by omega) (Ev.ifp natO (Ev.ifp (by omega) (Ev.ifp (by omega) (Ev.bind (same1_ev (samT (e' + 1)) c d h0 h2 h1 hl1 ?_) (Ev.ifp rfl ?_)))))
    · have hk' := hk.length
      have := g1 e' (by omega) c.f3 d.f3 0 rfl rfl hk'.1 hk'.2 (by omega)
      simp only [samT, parser_Same.f, eqfS, api_Clause.f]
      exact Ev.bind (Ev.ifp (by omega) this) (Ev.now _)
    · rw [wrap_nat i (by omega)]
      exact g2 (e' + 1) (by omega) A B (i + 1) a3 b3 hl hn (by omega)
theorem Same_f {a b : List S41} (h : SmL false a b) : Ev (fun k => pSame.f k a b) true := by
  obtain ⟨D, g⟩ := clause_loop h
  have hl := h.length
  obtain ⟨K, hK⟩ := g D (by omega) a b 0 rfl rfl hl.1 hl.2 (by omega)
  refine ⟨max K (D + 1), fun k hk => ?_⟩
  have h1 : samT (D + 1) k a b = some true := by
    simp only [samT, parser_Same.f, eqfS, api_Clause.f]
    rw [if_pos (by omega)]
    have := hK k (by omega)
    dsimp only at this
    rw [show ((0 : Nat) : Int) = 0 from rfl] at this
    rw [this]
    rfl
  have hdeep : ∀ n, samT (D + 1 + n) k a b = some true := by
    intro n
    induction n with
    | zero => exact h1
    | succ n ih => exact samT_deep (D + 1 + n) k a b _ ih
  have := hdeep (k - (D + 1))
  rwa [show D + 1 + (k - (D + 1)) = k by omega] at this
/-! ### what is read is bounded -/
theorem RL.self (p : Bool) {o : Nat} {ts : List S46} {x : Ans} (h : RL o ts x) : ts.length ≤ 1000000 → ∀ cs r, x = .ok (cs, r) → SmL p cs cs ∧ cs.length + r.length ≤ ts.length := by
  induction h with
  | stop => intro _ cs r hx; cases hx; exact ⟨SmL.nil, by simp⟩
  | bad => intro _ cs r hx; cases hx
  | semi o t ats u r x h1 h2 h3 hr ih =>
    intro hn cs q hx
    cases x with
    | error e => cases hx
    | ok y =>
      cases hx
      simp at hn
      obtain ⟨g1, g2⟩ := ih (by omega) _ _ rfl
      exact ⟨SmL.cons _ _ _ _ rfl rfl rfl (fun _ => rfl) (by dsimp only; omega) (by omega) SmL.nil g1, by simp; omega⟩
  | syn => intro _ cs r hx; cases hx
  | lim => intro _ cs r hx; cases hx
  | blk o t ats u r ks b q x ho h1 h2 h3 hk hr ihk ih =>
    intro hn cs q' hx
    cases x with
    | error e => cases hx
    | ok y =>
      cases hx
      simp at hn
      obtain ⟨g1, g2⟩ := ihk (by omega) _ _ rfl
      simp at g2
      obtain ⟨k1, k2⟩ := ih (by omega) _ _ rfl
      exact ⟨SmL.cons _ _ _ _ rfl rfl rfl (fun _ => rfl) (by dsimp only; omega) (by omega) g1 k1, by simp; omega⟩
  | blkF => intro _ cs r hx; cases hx
end Go.Proofs.YtkifdadhojbohaaDoor.Pu
