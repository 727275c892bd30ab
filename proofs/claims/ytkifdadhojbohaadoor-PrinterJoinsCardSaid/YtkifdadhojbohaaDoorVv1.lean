/- Joined out of the texts of this proof that bear the names PrF63 PrF36 PrF35 PvB PrF56 PrF26 PrF27 PwEc PrF72 PrF45 PwKs: what each shows stands over it there. -/
import Derived.Test.YtkifdadhojbohaaDoorVk1
import Derived.Test.YtkifdadhojbohaaDoorVc1
import Derived.Test.YtkifdadhojbohaaDoorVb1
import Derived.Test.YtkifdadhojbohaaDoorVs1
import Derived.Test.YtkifdadhojbohaaDoorVe1
set_option linter.unusedVariables false
set_option linter.unusedSimpArgs false
namespace Go.Proofs.YtkifdadhojbohaaDoor.Pr
open Go.Proofs.YtkifdadhojbohaaDoor
open Go.RowKit Go.Proofs.YtkifdadhojbohaaDoorW.PrintWords Go.Proofs.YtkifdadhojbohaaDoorW.PrintLast Go.Proofs.YtkifdadhojbohaaDoorW.PrintMore
attribute [local go_sem] max2_int min2_int max_two min_two max_three min_three max_four min_four   -- for this text's walks alone
set_option linter.unusedVariables false
set_option linter.unusedSimpArgs false
def lexer_isWord.l0 : Nat → ByteArray → Int → Int → Option (Bool)
 | 0, _, _, _ => none
 | k + 1, x0, x5, x6 => if x6 < x5 then (if 0 ≤ x6 then (if x6 < (x0.size : Int) then ((lexer_isRun.f (bt x0 x6)).bind fun t182 => (if t182 = true then (lexer_isWord.l0 k x0 x5 (wrap64 (x6 + 1))) else (some false))) else (none)) else (none)) else ((lexer_word.f k x0).bind fun t183 => (some (t183 == 0)))
def lexer_isWord.f (k : Nat) (a0 : ByteArray) : Option (Bool) := lexer_isWord.l0 k a0 (a0.size : Int) 0
theorem lexer_isWord.mono_l : ∀ k, (∀ y0 y1 y2, LeO (lexer_isWord.l0 k y0 y1 y2) (lexer_isWord.l0 (k + 1) y0 y1 y2))
 | 0 => fun _ _ _ r h => by simp [lexer_isWord.l0] at h
 | k + 1 => by
  have ih0 := lexer_isWord.mono_l k
  ·
   intro y0 y1 y2
   unfold lexer_isWord.l0
   repeat' first
   | (with_reducible exact LeO.refl _)
   | exact ih0 _ _ _
   | exact lexer_word.mono _ _
   | exact LeO.none _
   | refine LeO.ite ?_ ?_
   | refine LeO.bind ?_ (fun _ => ?_)
theorem lexer_isWord.mono : ∀ a0 k, LeO (lexer_isWord.f k a0) (lexer_isWord.f (k + 1) a0) := by
 intro a0 k
 have ih0 := lexer_isWord.mono_l k
 unfold lexer_isWord.f
 repeat' first
   | (with_reducible exact LeO.refl _)
   | exact ih0 _ _ _
   | exact lexer_word.mono _ _
   | exact LeO.none _
   | refine LeO.ite ?_ ?_
   | refine LeO.bind ?_ (fun _ => ?_)
set_option maxHeartbeats 8000000 in
set_option maxRecDepth 100000 in
theorem lexer_isWord.calls (k : Nat) (a0 : ByteArray) (r : Bool) (w : World) (h : lexer_isWord.f k a0 = some r) :
  Calls Tryd.prog 63 #[.string a0] w fun e w' => e = .returned (.bool r) ∧ Below w.heap.size w w' := by
 have HB := Aside0.mk (Below.refl w.heap.size w)
 have H : (lexer_isWord.l0 k a0 (a0.size : Int) 0) = some r := h
 clear h
 have H' := Aside0.mk H
 clear H
 go_enter Tryd.func63, Tryd.ntmps63
 go_wp2
 go_loopg [6] k (fun kq v6 w' => ∃ (x6_1 : Int), v6 = .int .i64 x6_1 ∧ Aside0 (lexer_isWord.l0 kq a0 (a0.size : Int) x6_1 = some r) ∧ Aside0 (kq ≤ k) ∧ Aside0 (Below w.heap.size w w'))
 case atStart => exact ⟨(0), sr_, H', ⟨Nat.le_refl _⟩, ⟨bl_ HB.out⟩⟩
 case round =>
  clear H'
  obtain ⟨x6_1, rfl, HA, HK1, HB⟩ := hrel
  cases gk with
  | zero => exact absurd HA.out (by simp [lexer_isWord.l0])
  | succ k1 =>
   have H := HA.out
   clear HA
   simp only [lexer_isWord.l0] at H
   by_cases c2 : x6_1 < (a0.size : Int)
   ·
    rw [if_pos c2] at H
    have c2b0 := decide_eq_true c2
    clear c2
    by_cases c3 : 0 ≤ x6_1
    ·
     rw [if_pos c3] at H
     have c3b0 := decide_eq_true c3
     clear c3
     by_cases c4 : x6_1 < (a0.size : Int)
     ·
      rw [if_pos c4] at H
      have c4b0 := decide_eq_true c4
      clear c4
      replace H := Option.bind_eq_some_iff.mp H
      obtain ⟨t182, A60, H⟩ := H
      (try dsimp only at H)
      have A6 := Aside0.mk A60
      clear A60
      by_cases c7 : t182 = true
      ·
       subst c7
       have H1 : (lexer_isWord.l0 k1 a0 (a0.size : Int) (wrap64 (x6_1 + 1))) = some r := by rw [if_pos rfl] at H; exact H
       clear H
       have H := H1
       clear H1
       have H' := Aside0.mk H
       clear H
       have p5 : 0 ≤ (x6_1 : Int) := dt_
       have q5 : x6_1 < (a0.size : Int) := dt_
       have hx5 := bt_at a0 x6_1
       replace p5 := eq_true p5
       replace q5 := eq_true q5
       go_wp2_with (first | ((with_reducible refine gate_callee (f := 82) rfl ?_); refine goesL_ (some 12) rfl rfl Tryd.func82 (by kernel_rfl) rfl #[.int .u8 (bt a0 x6_1)] rfl ga_ ?_; (with_reducible refine (lexer_isRun.calls (bt a0 x6_1) true _ A6.out).mono ?_); rintro e w8 ⟨rfl, hb⟩; refine ⟨_, rfl, ?_⟩; refine cut1_ (below_step (bl_ HB.out) hb) ?_; clear HB; intro HB; (try clear hb); (try clear hb2); (try clear hk); (try clear hi)))
       go_roundg k1
       case measure => have := HK1.out; omega
       case rel => exact ⟨(wrap64 (x6_1 + 1)), sr_, H', ⟨by have := HK1.out; omega⟩, ⟨bl_ HB.out⟩⟩
      ·
       replace c7 := Bool.eq_false_iff.mpr c7
       subst c7
       have H1 : (some false) = some r := by rw [if_neg (show ¬ (false = true) by decide)] at H; exact H
       clear H
       have H := H1
       clear H1
       obtain rfl := Option.some.inj H
       have p5 : 0 ≤ (x6_1 : Int) := dt_
       have q5 : x6_1 < (a0.size : Int) := dt_
       have hx5 := bt_at a0 x6_1
       replace p5 := eq_true p5
       replace q5 := eq_true q5
       go_wp2_with (first | ((with_reducible refine gate_callee (f := 82) rfl ?_); refine goesL_ (some 12) rfl rfl Tryd.func82 (by kernel_rfl) rfl #[.int .u8 (bt a0 x6_1)] rfl ga_ ?_; (with_reducible refine (lexer_isRun.calls (bt a0 x6_1) false _ A6.out).mono ?_); rintro e w9 ⟨rfl, hb⟩; refine ⟨_, rfl, ?_⟩; refine cut1_ (below_step (bl_ HB.out) hb) ?_; clear HB; intro HB; (try clear hb); (try clear hb2); (try clear hk); (try clear hi)))
       go_ret
       exact ⟨er_, bl_ HB.out⟩
     ·
      rw [if_neg c4] at H
      exact absurd H (by simp)
    ·
     rw [if_neg c3] at H
     exact absurd H (by simp)
   ·
    rw [if_neg c2] at H
    have c2b0 := decide_eq_false c2
    clear c2
    replace H := Option.bind_eq_some_iff.mp H
    obtain ⟨t183, A100, H⟩ := H
    (try dsimp only at H)
    have A10 := Aside0.mk A100
    clear A100
    obtain rfl := Option.some.inj H
    go_wp2_with (first | ((with_reducible refine gate_callee (f := 91) rfl ?_); refine goesL_ (some 16) rfl rfl Tryd.func91 (by kernel_rfl) rfl #[.string a0] rfl ga_ ?_; (with_reducible refine (lexer_word.calls k1 a0 t183 _ A10.out).mono ?_); rintro e w11 ⟨rfl, hb⟩; refine ⟨_, rfl, ?_⟩; refine cut1_ (below_step (bl_ HB.out) hb) ?_; clear HB; intro HB; (try clear hb); (try clear hb2); (try clear hk); (try clear hi)))
    go_ret
    exact ⟨er_, bl_ HB.out⟩
def lexer_Valid.j0 : Nat → Bool → Int → ByteArray → Int → Int → Option (Bool)
 | 0, _, _, _, _, _ => none
 | k + 1, x10, x185000, x185001, x185002, x185003 => if x10 = true then (some false) else (if x185000 = 1 then (if x185001.toList = ([] : List UInt8) then (some false) else ((lexer_isWord.f k x185001).bind fun t185 => (some t185))) else (if x185000 = 2 then (if x185001.toList = ([] : List UInt8) then (if 0 ≤ x185002 then (some (decide (x185002 ≤ 1000000000))) else (some false)) else (some false)) else (if x185000 = 3 then ((lexer_title.f k x185001).bind fun t186 => (some (t186 == 0))) else (if x185000 = 4 then (if (x185001.size : Int) = 1 then ((lexer_kinds.f).bind fun t187 => (if 0 < (x185001.size : Int) then (if 0 ≤ (bt x185001 0) then (if (bt x185001 0) < 256 then (some ((lexer_kinds.at_ (bt x185001 0)) == 5)) else (none)) else (none)) else (none))) else (some false)) else (if x185000 = 5 then (some (x185001.toList == ([] : List UInt8))) else (some false))))))
def lexer_Valid.f (k : Nat) (a0_0 : Int) (a0_1 : ByteArray) (a0_2 : Int) (a0_3 : Int) : Option (Bool) := if a0_0 = 2 then (lexer_Valid.j0 k false a0_0 a0_1 a0_2 a0_3) else (lexer_Valid.j0 k (a0_2 != 0) a0_0 a0_1 a0_2 a0_3)
theorem lexer_Valid.mono_l : ∀ k, (∀ y0 y1 y2 y3 y4, LeO (lexer_Valid.j0 k y0 y1 y2 y3 y4) (lexer_Valid.j0 (k + 1) y0 y1 y2 y3 y4))
 | 0 => fun _ _ _ _ _ r h => by simp [lexer_Valid.j0] at h
 | k + 1 => by
  have ih0 := lexer_Valid.mono_l k
  ·
   intro y0 y1 y2 y3 y4
   unfold lexer_Valid.j0
   repeat' first
   | (with_reducible exact LeO.refl _)
   | exact ih0 _ _ _ _ _
   | exact lexer_isWord.mono _ _
   | exact lexer_title.mono _ _
   | exact LeO.none _
   | refine LeO.ite ?_ ?_
   | refine LeO.bind ?_ (fun _ => ?_)
theorem lexer_Valid.mono : ∀ a0 a1 a2 a3 k, LeO (lexer_Valid.f k a0 a1 a2 a3) (lexer_Valid.f (k + 1) a0 a1 a2 a3) := by
 intro a0 a1 a2 a3 k
 have ih0 := lexer_Valid.mono_l k
 unfold lexer_Valid.f
 repeat' first
   | (with_reducible exact LeO.refl _)
   | exact ih0 _ _ _ _ _
   | exact lexer_isWord.mono _ _
   | exact lexer_title.mono _ _
   | exact LeO.none _
   | refine LeO.ite ?_ ?_
   | refine LeO.bind ?_ (fun _ => ?_)
def lexer_Valid.T11 : Bool × List (List Nat × List Nat) := (true, [([], []), ([0], [0]), ([1], [1]), ([2], [2]), ([3], [3]), ([4, 4], [4]), ([4], [4]), ([6, 4], [4, 6]), ([7, 4], [4, 7]), ([5, 8, 4], [4, 5, 8]), ([9, 4], [4, 9]), ([4, 10], [4, 10]), ([11, 5, 0, 1, 2, 3, 4, 5, 6, 7, 8, 9, 10, 11], [11])])
def lexer_Valid.B11 : List Nat := [0, 1, 3, 7, 15, 31, 31, 95, 223, 511, 1023, 2047, 4095]
theorem lexer_Valid.tab11 : rtab .any (opsOf Tryd.f36 11) = lexer_Valid.T11 := by kernel_rfl
theorem lexer_Valid.bits11 : waitsOk lexer_Valid.T11.2 lexer_Valid.B11 = true := by kernel_rfl
set_option maxHeartbeats 8000000 in
set_option maxRecDepth 100000 in
theorem lexer_Valid.calls (k : Nat) (a0_0 : Int) (a0_1 : ByteArray) (a0_2 : Int) (a0_3 : Int) (r : Bool) (w : World) (h : lexer_Valid.f k a0_0 a0_1 a0_2 a0_3 = some r) :
  Calls Tryd.prog 36 #[.agg #[.int .i64 a0_0, .string a0_1, .int .i64 a0_2, .int .i64 a0_3]] w fun e w' => e = .returned (.bool r) ∧ Below w.heap.size w w' := by
 have hu46 := Tryd.underlying46
 have HB := Aside0.mk (Below.refl w.heap.size w)
 have H : (if a0_0 = 2 then (lexer_Valid.j0 k false a0_0 a0_1 a0_2 a0_3) else (lexer_Valid.j0 k (a0_2 != 0) a0_0 a0_1 a0_2 a0_3)) = some r := h
 clear h
 have HC2 := Aside0.mk H
 clear H
 go_enter Tryd.func36, Tryd.ntmps36
 go_upto_region 1 with (first | ((with_reducible refine gate_dst (N := 1) rfl ?_); refine bx_ (N := 1) (cs := #[.int .i64 a0_0, .string a0_1, .int .i64 a0_2, .int .i64 a0_3]) (t := 46) ?_; intro gb184 hg w3 hbox hb; have n0_ := Aside0.mk (below_step (bl_ HB.out) hb); have n1_ := Aside0.mk (hbox); have n2_ := Aside0.mk (bz_ (w := w) hg (bl_ HB.out)); have n3_ := Aside0.mk (bz_ (w := w) hg (bl_ HB.out)); clear HB; have HB := n0_; have BK184 := n1_; have GW184 := n2_; have GE184 := n3_; clear n0_ n1_ n2_ n3_; clear hb hbox hg))
 (try simp only [Act.put, List.setIfInBounds_toArray, List.set_cons_zero, List.set_cons_succ])
 go_cut [10] (fun v10 wc => ∃ (kq : Nat) (x10_1 : Bool), v10 = .bool x10_1 ∧ Aside0 (lexer_Valid.j0 kq x10_1 a0_0 a0_1 a0_2 a0_3 = some r) ∧ Aside0 (kq ≤ k) ∧ Aside0 (wc.heap[gb184]? = some (.cells #[.int .i64 a0_0, .string a0_1, .int .i64 a0_2, .int .i64 a0_3] 46 (0, 0))) ∧ Aside0 (Below w.heap.size w wc))
 case first =>
  have H := HC2.out
  clear HC2
  by_cases c4 : a0_0 = 2
  ·
   rw [if_pos c4] at H
   have c4b0 := beq_iff_eq.mpr c4
   have c4b1 := bne_eq_false_iff_eq.mpr c4
   clear c4
   (first | rw [c4b0] | (simp only [i64_w, i32_w]; rw [c4b0]) | skip)
   have H' := Aside0.mk H
   clear H
   have hcz5_0 := cz_ (.int .i64 a0_0) BK184.out 0
   have hcz5_1 := cz_ (.string a0_1) BK184.out 1
   have hcz5_2 := cz_ (.int .i64 a0_2) BK184.out 2
   have hcz5_3 := cz_ (.int .i64 a0_3) BK184.out 3
   have hfz5_0 := blk_frozen BK184.out 0
   have hfz5_1 := blk_frozen BK184.out 1
   have hfz5_2 := blk_frozen BK184.out 2
   have hfz5_3 := blk_frozen BK184.out 3
   go_wp2
   go_meet
   case rel => exact ⟨_, (false), sr_, H', ⟨by first | omega | exact Nat.le_refl _⟩, ⟨by exact bk_ BK184.out⟩, ⟨bl1_ HB.out GE184.out⟩⟩
  ·
   rw [if_neg c4] at H
   have c4b0 := beq_eq_false_iff_ne.mpr c4
   have c4b1 := bne_iff_ne.mpr c4
   (first | rw [c4b0] | (simp only [i64_w, i32_w]; rw [c4b0]) | skip)
   have H' := Aside0.mk H
   clear H
   have hcz6_0 := cz_ (.int .i64 a0_0) BK184.out 0
   have hcz6_1 := cz_ (.string a0_1) BK184.out 1
   have hcz6_2 := cz_ (.int .i64 a0_2) BK184.out 2
   have hcz6_3 := cz_ (.int .i64 a0_3) BK184.out 3
   have hfz6_0 := blk_frozen BK184.out 0
   have hfz6_1 := blk_frozen BK184.out 1
   have hfz6_2 := blk_frozen BK184.out 2
   have hfz6_3 := blk_frozen BK184.out 3
   go_wp2
   go_meet
   case rel => exact ⟨_, ((a0_2 != 0)), sr_, H', ⟨by first | omega | exact Nat.le_refl _⟩, ⟨by exact bk_ BK184.out⟩, ⟨bl1_ HB.out GE184.out⟩⟩
 case rest =>
  clear HC2
  try clear p2
  try clear c3
  try clear c4
  try clear c4b0
  try clear c4b1
  try clear hcz5_0
  try clear hcz5_1
  try clear hcz5_2
  try clear hcz5_3
  try clear hcz6_0
  try clear hcz6_1
  try clear hcz6_2
  try clear hcz6_3
  try clear hfz5_0
  try clear hfz5_1
  try clear hfz5_2
  try clear hfz5_3
  try clear hfz6_0
  try clear hfz6_1
  try clear hfz6_2
  try clear hfz6_3
  obtain ⟨kq, x10_1, rfl, HA, HJ1, BK184, HB⟩ := hcut
  cases kq with
  | zero => exact absurd HA.out (by simp [lexer_Valid.j0])
  | succ kj1 =>
   have H := HA.out
   clear HA
   simp only [lexer_Valid.j0] at H
   by_cases c7 : x10_1 = true
   ·
    subst c7
    have H1 : (some false) = some r := by rw [if_pos rfl] at H; exact H
    clear H
    have H := H1
    clear H1
    obtain rfl := Option.some.inj H
    go_wp2
    go_ret
    exact ⟨er_, bl1_ HB.out GE184.out⟩
   ·
    replace c7 := Bool.eq_false_iff.mpr c7
    subst c7
    have H1 : (if a0_0 = 1 then (if a0_1.toList = ([] : List UInt8) then (some false) else ((lexer_isWord.f kj1 a0_1).bind fun t185 => (some t185))) else (if a0_0 = 2 then (if a0_1.toList = ([] : List UInt8) then (if 0 ≤ a0_2 then (some (decide (a0_2 ≤ 1000000000))) else (some false)) else (some false)) else (if a0_0 = 3 then ((lexer_title.f kj1 a0_1).bind fun t186 => (some (t186 == 0))) else (if a0_0 = 4 then (if (a0_1.size : Int) = 1 then ((lexer_kinds.f).bind fun t187 => (if 0 < (a0_1.size : Int) then (if 0 ≤ (bt a0_1 0) then (if (bt a0_1 0) < 256 then (some ((lexer_kinds.at_ (bt a0_1 0)) == 5)) else (none)) else (none)) else (none))) else (some false)) else (if a0_0 = 5 then (some (a0_1.toList == ([] : List UInt8))) else (some false)))))) = some r := by rw [if_neg (show ¬ (false = true) by decide)] at H; exact H
    clear H
    have H := H1
    clear H1
    by_cases c8 : a0_0 = 1
    ·
     rw [if_pos c8] at H
     have c8b0 := beq_iff_eq.mpr c8
     have c8b1 := bne_eq_false_iff_eq.mpr c8
     clear c8
     by_cases c9 : a0_1.toList = ([] : List UInt8)
     ·
      rw [if_pos c9] at H
      have c9b0 := beq_iff_eq.mpr c9
      have c9b1 := bne_eq_false_iff_eq.mpr c9
      clear c9
      obtain rfl := Option.some.inj H
      have hcz10_0 := cz_ (.int .i64 a0_0) BK184.out 0
      have hcz10_1 := cz_ (.string a0_1) BK184.out 1
      have hcz10_2 := cz_ (.int .i64 a0_2) BK184.out 2
      have hcz10_3 := cz_ (.int .i64 a0_3) BK184.out 3
      have hfz10_0 := blk_frozen BK184.out 0
      have hfz10_1 := blk_frozen BK184.out 1
      have hfz10_2 := blk_frozen BK184.out 2
      have hfz10_3 := blk_frozen BK184.out 3
      go_wp2
      go_ret
      exact ⟨er_, bl1_ HB.out GE184.out⟩
     ·
      rw [if_neg c9] at H
      have c9b0 := beq_eq_false_iff_ne.mpr c9
      have c9b1 := bne_iff_ne.mpr c9
      replace H := Option.bind_eq_some_iff.mp H
      obtain ⟨t185, A110, H⟩ := H
      (try dsimp only at H)
      have A11 := Aside0.mk A110
      clear A110
      obtain rfl := Option.some.inj H
      have hcz12_0 := cz_ (.int .i64 a0_0) BK184.out 0
      have hcz12_1 := cz_ (.string a0_1) BK184.out 1
      have hcz12_2 := cz_ (.int .i64 a0_2) BK184.out 2
      have hcz12_3 := cz_ (.int .i64 a0_3) BK184.out 3
      have hfz12_0 := blk_frozen BK184.out 0
      have hfz12_1 := blk_frozen BK184.out 1
      have hfz12_2 := blk_frozen BK184.out 2
      have hfz12_3 := blk_frozen BK184.out 3
      go_wp2_with (first | (go_at_call 63; (with_reducible refine (lexer_isWord.calls kj1 a0_1 t185 _ A11.out).mono ?_); rintro e w13 ⟨rfl, hb⟩; refine cut2_ (bb_ BK184.out hb) (below_step (bl1_ HB.out GE184.out) hb) ?_; clear BK184 HB; intro BK184 HB; (try clear hb); (try clear hb2); (try clear hk); (try clear hi)))
      go_ret
      exact ⟨er_, bl1_ HB.out GE184.out⟩
    ·
     rw [if_neg c8] at H
     have c8b0 := beq_eq_false_iff_ne.mpr c8
     have c8b1 := bne_iff_ne.mpr c8
     by_cases c14 : a0_0 = 2
     ·
      rw [if_pos c14] at H
      have c14b0 := beq_iff_eq.mpr c14
      have c14b1 := bne_eq_false_iff_eq.mpr c14
      clear c14
      by_cases c15 : a0_1.toList = ([] : List UInt8)
      ·
       rw [if_pos c15] at H
       have c15b0 := beq_iff_eq.mpr c15
       have c15b1 := bne_eq_false_iff_eq.mpr c15
       clear c15
       by_cases c16 : 0 ≤ a0_2
       ·
        rw [if_pos c16] at H
        have c16b0 := decide_eq_true c16
        clear c16
        obtain rfl := Option.some.inj H
        have hcz17_0 := cz_ (.int .i64 a0_0) BK184.out 0
        have hcz17_1 := cz_ (.string a0_1) BK184.out 1
        have hcz17_2 := cz_ (.int .i64 a0_2) BK184.out 2
        have hcz17_3 := cz_ (.int .i64 a0_3) BK184.out 3
        have hfz17_0 := blk_frozen BK184.out 0
        have hfz17_1 := blk_frozen BK184.out 1
        have hfz17_2 := blk_frozen BK184.out 2
        have hfz17_3 := blk_frozen BK184.out 3
        go_wp2
        go_ret
        exact ⟨er_, bl1_ HB.out GE184.out⟩
       ·
        rw [if_neg c16] at H
        have c16b0 := decide_eq_false c16
        clear c16
        obtain rfl := Option.some.inj H
        have hcz18_0 := cz_ (.int .i64 a0_0) BK184.out 0
        have hcz18_1 := cz_ (.string a0_1) BK184.out 1
        have hcz18_2 := cz_ (.int .i64 a0_2) BK184.out 2
        have hcz18_3 := cz_ (.int .i64 a0_3) BK184.out 3
        have hfz18_0 := blk_frozen BK184.out 0
        have hfz18_1 := blk_frozen BK184.out 1
        have hfz18_2 := blk_frozen BK184.out 2
        have hfz18_3 := blk_frozen BK184.out 3
        go_wp2
        go_ret
        exact ⟨er_, bl1_ HB.out GE184.out⟩
      ·
       rw [if_neg c15] at H
       have c15b0 := beq_eq_false_iff_ne.mpr c15
       have c15b1 := bne_iff_ne.mpr c15
       obtain rfl := Option.some.inj H
       have hcz19_0 := cz_ (.int .i64 a0_0) BK184.out 0
       have hcz19_1 := cz_ (.string a0_1) BK184.out 1
       have hcz19_2 := cz_ (.int .i64 a0_2) BK184.out 2
       have hcz19_3 := cz_ (.int .i64 a0_3) BK184.out 3
       have hfz19_0 := blk_frozen BK184.out 0
       have hfz19_1 := blk_frozen BK184.out 1
       have hfz19_2 := blk_frozen BK184.out 2
       have hfz19_3 := blk_frozen BK184.out 3
       go_wp2
       go_ret
       exact ⟨er_, bl1_ HB.out GE184.out⟩
     ·
      rw [if_neg c14] at H
      have c14b0 := beq_eq_false_iff_ne.mpr c14
      have c14b1 := bne_iff_ne.mpr c14
      by_cases c20 : a0_0 = 3
      ·
       rw [if_pos c20] at H
       have c20b0 := beq_iff_eq.mpr c20
       have c20b1 := bne_eq_false_iff_eq.mpr c20
       clear c20
       replace H := Option.bind_eq_some_iff.mp H
       obtain ⟨t186, A210, H⟩ := H
       (try dsimp only at H)
       have A21 := Aside0.mk A210
       clear A210
       obtain rfl := Option.some.inj H
       have hcz22_0 := cz_ (.int .i64 a0_0) BK184.out 0
       have hcz22_1 := cz_ (.string a0_1) BK184.out 1
       have hcz22_2 := cz_ (.int .i64 a0_2) BK184.out 2
       have hcz22_3 := cz_ (.int .i64 a0_3) BK184.out 3
       have hfz22_0 := blk_frozen BK184.out 0
       have hfz22_1 := blk_frozen BK184.out 1
       have hfz22_2 := blk_frozen BK184.out 2
       have hfz22_3 := blk_frozen BK184.out 3
       go_wp2_with (first | ((with_reducible refine gate_callee (f := 64) rfl ?_); refine goesL_ (some 42) rfl rfl Tryd.func64 (by kernel_rfl) rfl #[.string a0_1] rfl ga_ ?_; (with_reducible refine (lexer_title.calls kj1 a0_1 t186 _ A21.out).mono ?_); rintro e w' ⟨rfl, ⟨nd, rfl⟩⟩; refine ⟨_, rfl, ?_⟩))
       go_ret
       exact ⟨er_, bl1_ HB.out GE184.out⟩
      ·
       rw [if_neg c20] at H
       have c20b0 := beq_eq_false_iff_ne.mpr c20
       have c20b1 := bne_iff_ne.mpr c20
       by_cases c23 : a0_0 = 4
       ·
        rw [if_pos c23] at H
        have c23b0 := beq_iff_eq.mpr c23
        have c23b1 := bne_eq_false_iff_eq.mpr c23
        clear c23
        by_cases c24 : (a0_1.size : Int) = 1
        ·
         rw [if_pos c24] at H
         have c24b0 := beq_iff_eq.mpr c24
         have c24b1 := bne_eq_false_iff_eq.mpr c24
         clear c24
         replace H := Option.bind_eq_some_iff.mp H
         obtain ⟨t187, A250, H⟩ := H
         (try dsimp only at H)
         have A25 := Aside0.mk A250
         clear A250
         by_cases c26 : 0 < (a0_1.size : Int)
         ·
          rw [if_pos c26] at H
          have c26b0 := decide_eq_true c26
          have c26b1 : decide (0 < a0_1.size) = true := decide_eq_true (by omega)
          clear c26
          by_cases c28 : 0 ≤ (bt a0_1 0)
          ·
           rw [if_pos c28] at H
           have c28b0 := decide_eq_true c28
           clear c28
           by_cases c29 : (bt a0_1 0) < 256
           ·
            rw [if_pos c29] at H
            have c29b0 := decide_eq_true c29
            clear c29
            obtain rfl := Option.some.inj H
            have hcz31_0 := cz_ (.int .i64 a0_0) BK184.out 0
            have hcz31_1 := cz_ (.string a0_1) BK184.out 1
            have hcz31_2 := cz_ (.int .i64 a0_2) BK184.out 2
            have hcz31_3 := cz_ (.int .i64 a0_3) BK184.out 3
            have hfz31_0 := blk_frozen BK184.out 0
            have hfz31_1 := blk_frozen BK184.out 1
            have hfz31_2 := blk_frozen BK184.out 2
            have hfz31_3 := blk_frozen BK184.out 3
            try go_wp2
            refine cut2_ (blk_drew BK184.out) (below_drew1 HB.out) ?_
            clear BK184 HB
            intro BK184 HB
            have p27 : 0 ≤ (0 : Int) := (by omega)
            have q27 : 0 < a0_1.size := (by have : (0 : Int) < (a0_1.size : Int) := dt_; omega)
            have hx27 : ∀ h : 0 < a0_1.size, ((a0_1[0]'h).toNat : Int) = bt a0_1 0 := bt_at a0_1 0
            clear p27
            have qi27 : (0 < (a0_1.size : Int)) = True := eq_true (dt_)
            replace q27 := eq_true q27
            refine start_ (n := 13) (S := fun w' => w'.cell? ⟨gb184, 0, none⟩ = some (.int .i64 a0_0) ∧ w'.cell? ⟨gb184, 1, none⟩ = some (.string a0_1) ∧ w'.cell? ⟨gb184, 2, none⟩ = some (.int .i64 a0_2) ∧ w'.cell? ⟨gb184, 3, none⟩ = some (.int .i64 a0_3)) (ds := []) #[false, false, false, false, false, false, false, false, false, false, false, false, false] (by kernel_rfl) rfl rfl ⟨(blk_cell BK184.out 0).trans rfl, (blk_cell BK184.out 1).trans rfl, (blk_cell BK184.out 2).trans rfl, (blk_cell BK184.out 3).trans rfl⟩ (fun hHeld => ?_); refine with_tabW lexer_Valid.tab11 lexer_Valid.bits11 (fun HT_ HW_ => ?_)
            generalize wc.drew = w32 at BK184 HB hHeld ⊢
            refine pr_ (i := 0) (N := some 46) #[true, false, false, false, false, false, false, false, false, false, false, false, false] (any_of HT_.out (by kernel_rfl)) ?_
            refine take_ (i := 1) (N := some 47) (v := ?_) (a' := ?_) #[true, true, false, false, false, false, false, false, false, false, false, false, false] rfl rfl (take_ofW HT_.out HW_.out (by kernel_rfl)) (fun _ _ _ h => h) (Or.inl ⟨by rfl, ?_⟩) hHeld ?_ ?_
            rotate_left
            ·
             rintro w' ⟨s0, s1, s2, s3⟩
             go_simp
             with_reducible rfl
            rotate_left
            ·
             simp only [Act.put, List.setIfInBounds_toArray, List.set_cons_zero, List.set_cons_succ, i64_w, i32_w]
             rfl
            refine pr_ (i := 2) (N := some 48) #[true, true, true, false, false, false, false, false, false, false, false, false, false] (any_of HT_.out (by kernel_rfl)) ?_
            refine pr_ (i := 3) (N := some 49) #[true, true, true, true, false, false, false, false, false, false, false, false, false] (any_of HT_.out (by kernel_rfl)) ?_
            refine pr_ (i := 4) (N := some 50) #[true, true, true, true, true, false, false, false, false, false, false, false, false] (any_of HT_.out (by kernel_rfl)) ?_
            refine pr_ (i := 6) (N := some 52) #[true, true, true, true, true, false, true, false, false, false, false, false, false] (any_of HT_.out (by kernel_rfl)) ?_
            refine take_ (i := 7) (N := some 53) (v := ?_) (a' := ?_) #[true, true, true, true, true, false, true, true, false, false, false, false, false] rfl rfl (take_ofW HT_.out HW_.out (by kernel_rfl)) (fun _ _ _ h => h) (Or.inl ⟨by rfl, ?_⟩) hHeld ?_ ?_
            rotate_left
            ·
             rintro w' ⟨s0, s1, s2, s3⟩
             go_simp
             with_reducible rfl
            rotate_left
            ·
             simp only [Act.put, List.setIfInBounds_toArray, List.set_cons_zero, List.set_cons_succ, i64_w, i32_w]
             rfl
            refine take_ (i := 8) (N := some 54) (v := ?_) (a' := ?_) #[true, true, true, true, true, false, true, true, true, false, false, false, false] rfl rfl (take_ofW HT_.out HW_.out (by kernel_rfl)) (fun _ _ _ h => h) (Or.inl ⟨by rfl, ?_⟩) hHeld ?_ ?_
            rotate_left
            ·
             rintro w' ⟨s0, s1, s2, s3⟩
             go_simp
             with_reducible rfl
            rotate_left
            ·
             simp only [Act.put, List.setIfInBounds_toArray, List.set_cons_zero, List.set_cons_succ, i64_w, i32_w]
             rfl
            refine one_ (i := 5) (N := some 51) #[true, true, true, true, true, true, true, true, true, false, false, false, false] rfl rfl (one_of HT_.out (by kernel_rfl)) (by decide) (fun K hK => ?_)
            refine goes_ Tryd.func65 (by kernel_rfl) rfl #[] (by rfl) rfl rfl ga_ ?_
            with_reducible refine (lexer_kinds.calls  t187 _ A25.out).mono ?_
            rintro e w33 ⟨rfl, hb⟩
            refine ⟨_, rfl, ?_⟩
            refine cut2_ (bb_ BK184.out hb) (below_step (bl1_ HB.out GE184.out) hb) ?_
            clear BK184 HB
            intro BK184 HB
            (try clear hb)
            (try clear hb2)
            (try clear hk)
            (try clear hi)
            have p30 : 0 ≤ ((bt a0_1 0) : Int) := dt_
            have q30 : ((bt a0_1 0) : Int) < 256 := dt_
            have hx30 := lexer_kinds.at_run A25.out (bt a0_1 0) p30 q30
            replace p30 := eq_true p30
            replace q30 := eq_true q30
            refine hK.out _ _ ⟨(blk_cell BK184.out 0).trans rfl, (blk_cell BK184.out 1).trans rfl, (blk_cell BK184.out 2).trans rfl, (blk_cell BK184.out 3).trans rfl⟩ (fun hHeld => ?_)
            clear hK K
            refine norm_ (a' := ?_) ?_ ?_
            rotate_left
            ·
             show Act.put _ (some 51) _ = _
             simp only [Act.put, List.setIfInBounds_toArray, List.set_cons_zero, List.set_cons_succ, i64_w, i32_w]
             rfl
            refine take_ (i := 9) (N := some 55) (v := ?_) (a' := ?_) #[true, true, true, true, true, true, true, true, true, true, false, false, false] rfl rfl (take_ofW HT_.out HW_.out (by kernel_rfl)) (fun _ _ _ h => h) (Or.inl ⟨by rfl, ?_⟩) hHeld ?_ ?_
            rotate_left
            ·
             rintro w' ⟨s0, s1, s2, s3⟩
             go_simp
             with_reducible rfl
            rotate_left
            ·
             simp only [Act.put, List.setIfInBounds_toArray, List.set_cons_zero, List.set_cons_succ, i64_w, i32_w]
             rfl
            refine pr_ (i := 10) (N := some 56) #[true, true, true, true, true, true, true, true, true, true, true, false, false] (any_of HT_.out (by kernel_rfl)) ?_
            refine pr_ (i := 11) (N := some 57) #[true, true, true, true, true, true, true, true, true, true, true, true, false] (any_of HT_.out (by kernel_rfl)) ?_
            refine pr_ (i := 12) (N := some 2) #[true, true, true, true, true, true, true, true, true, true, true, true, true] (any_of HT_.out (by kernel_rfl)) ?_
            refine done_ (done_of HT_.out (by kernel_rfl)) ?_
            try go_wp2
            go_ret
            exact ⟨er_, bl1_ HB.out GE184.out⟩
           ·
            rw [if_neg c29] at H
            exact absurd H (by simp)
          ·
           rw [if_neg c28] at H
           exact absurd H (by simp)
         ·
          rw [if_neg c26] at H
          exact absurd H (by simp)
        ·
         rw [if_neg c24] at H
         have c24b0 := beq_eq_false_iff_ne.mpr c24
         have c24b1 := bne_iff_ne.mpr c24
         obtain rfl := Option.some.inj H
         have hcz34_0 := cz_ (.int .i64 a0_0) BK184.out 0
         have hcz34_1 := cz_ (.string a0_1) BK184.out 1
         have hcz34_2 := cz_ (.int .i64 a0_2) BK184.out 2
         have hcz34_3 := cz_ (.int .i64 a0_3) BK184.out 3
         have hfz34_0 := blk_frozen BK184.out 0
         have hfz34_1 := blk_frozen BK184.out 1
         have hfz34_2 := blk_frozen BK184.out 2
         have hfz34_3 := blk_frozen BK184.out 3
         try go_wp2
         refine cut2_ (blk_drew BK184.out) (below_drew1 HB.out) ?_
         clear BK184 HB
         intro BK184 HB
         refine start_ (n := 13) (S := fun w' => w'.cell? ⟨gb184, 0, none⟩ = some (.int .i64 a0_0) ∧ w'.cell? ⟨gb184, 1, none⟩ = some (.string a0_1) ∧ w'.cell? ⟨gb184, 2, none⟩ = some (.int .i64 a0_2) ∧ w'.cell? ⟨gb184, 3, none⟩ = some (.int .i64 a0_3)) (ds := []) #[false, false, false, false, false, false, false, false, false, false, false, false, false] (by kernel_rfl) rfl rfl ⟨(blk_cell BK184.out 0).trans rfl, (blk_cell BK184.out 1).trans rfl, (blk_cell BK184.out 2).trans rfl, (blk_cell BK184.out 3).trans rfl⟩ (fun hHeld => ?_); refine with_tabW lexer_Valid.tab11 lexer_Valid.bits11 (fun HT_ HW_ => ?_)
         generalize wc.drew = w35 at BK184 HB hHeld ⊢
         refine pr_ (i := 0) (N := some 46) #[true, false, false, false, false, false, false, false, false, false, false, false, false] (any_of HT_.out (by kernel_rfl)) ?_
         refine take_ (i := 1) (N := some 47) (v := ?_) (a' := ?_) #[true, true, false, false, false, false, false, false, false, false, false, false, false] rfl rfl (take_ofW HT_.out HW_.out (by kernel_rfl)) (fun _ _ _ h => h) (Or.inl ⟨by rfl, ?_⟩) hHeld ?_ ?_
         rotate_left
         ·
          rintro w' ⟨s0, s1, s2, s3⟩
          go_simp
          with_reducible rfl
         rotate_left
         ·
          simp only [Act.put, List.setIfInBounds_toArray, List.set_cons_zero, List.set_cons_succ, i64_w, i32_w]
          rfl
         refine pr_ (i := 2) (N := some 48) #[true, true, true, false, false, false, false, false, false, false, false, false, false] (any_of HT_.out (by kernel_rfl)) ?_
         refine pr_ (i := 3) (N := some 49) #[true, true, true, true, false, false, false, false, false, false, false, false, false] (any_of HT_.out (by kernel_rfl)) ?_
         refine pr_ (i := 4) (N := some 50) #[true, true, true, true, true, false, false, false, false, false, false, false, false] (any_of HT_.out (by kernel_rfl)) ?_
         refine pure_ (i := 5) (N := some 51) (v := undef) (a' := ?_) #[true, true, true, true, true, true, false, false, false, false, false, false, false] rfl rfl (any_of HT_.out (by kernel_rfl)) (fun _ _ _ h => h) (Or.inr ⟨by rfl, rfl⟩) ?_ ?_
         rotate_left
         ·
          simp only [Act.put, List.setIfInBounds_toArray, List.set_cons_zero, List.set_cons_succ, i64_w, i32_w]
          rfl
         refine pure_ (i := 6) (N := some 52) (v := undef) (a' := ?_) #[true, true, true, true, true, true, true, false, false, false, false, false, false] rfl rfl (any_of HT_.out (by kernel_rfl)) (fun _ _ _ h => h) (Or.inr ⟨by rfl, rfl⟩) ?_ ?_
         rotate_left
         ·
          simp only [Act.put, List.setIfInBounds_toArray, List.set_cons_zero, List.set_cons_succ, i64_w, i32_w]
          rfl
         refine pure_ (i := 7) (N := some 53) (v := undef) (a' := ?_) #[true, true, true, true, true, true, true, true, false, false, false, false, false] rfl rfl (any_of HT_.out (by kernel_rfl)) (fun _ _ _ h => h) (Or.inr ⟨by rfl, rfl⟩) ?_ ?_
         rotate_left
         ·
          simp only [Act.put, List.setIfInBounds_toArray, List.set_cons_zero, List.set_cons_succ, i64_w, i32_w]
          rfl
         refine pure_ (i := 8) (N := some 54) (v := undef) (a' := ?_) #[true, true, true, true, true, true, true, true, true, false, false, false, false] rfl rfl (any_of HT_.out (by kernel_rfl)) (fun _ _ _ h => h) (Or.inr ⟨by rfl, rfl⟩) ?_ ?_
         rotate_left
         ·
          simp only [Act.put, List.setIfInBounds_toArray, List.set_cons_zero, List.set_cons_succ, i64_w, i32_w]
          rfl
         refine pure_ (i := 9) (N := some 55) (v := undef) (a' := ?_) #[true, true, true, true, true, true, true, true, true, true, false, false, false] rfl rfl (any_of HT_.out (by kernel_rfl)) (fun _ _ _ h => h) (Or.inr ⟨by rfl, rfl⟩) ?_ ?_
         rotate_left
         ·
          simp only [Act.put, List.setIfInBounds_toArray, List.set_cons_zero, List.set_cons_succ, i64_w, i32_w]
          rfl
         refine pure_ (i := 10) (N := some 56) (v := undef) (a' := ?_) #[true, true, true, true, true, true, true, true, true, true, true, false, false] rfl rfl (any_of HT_.out (by kernel_rfl)) (fun _ _ _ h => h) (Or.inr ⟨by rfl, rfl⟩) ?_ ?_
         rotate_left
         ·
          simp only [Act.put, List.setIfInBounds_toArray, List.set_cons_zero, List.set_cons_succ, i64_w, i32_w]
          rfl
         refine pr_ (i := 11) (N := some 57) #[true, true, true, true, true, true, true, true, true, true, true, true, false] (any_of HT_.out (by kernel_rfl)) ?_
         refine pr_ (i := 12) (N := some 2) #[true, true, true, true, true, true, true, true, true, true, true, true, true] (any_of HT_.out (by kernel_rfl)) ?_
         refine done_ (done_of HT_.out (by kernel_rfl)) ?_
         try go_wp2
         go_ret
         exact ⟨er_, bl1_ HB.out GE184.out⟩
       ·
        rw [if_neg c23] at H
        have c23b0 := beq_eq_false_iff_ne.mpr c23
        have c23b1 := bne_iff_ne.mpr c23
        by_cases c36 : a0_0 = 5
        ·
         rw [if_pos c36] at H
         have c36b0 := beq_iff_eq.mpr c36
         have c36b1 := bne_eq_false_iff_eq.mpr c36
         clear c36
         obtain rfl := Option.some.inj H
         have hcz37_0 := cz_ (.int .i64 a0_0) BK184.out 0
         have hcz37_1 := cz_ (.string a0_1) BK184.out 1
         have hcz37_2 := cz_ (.int .i64 a0_2) BK184.out 2
         have hcz37_3 := cz_ (.int .i64 a0_3) BK184.out 3
         have hfz37_0 := blk_frozen BK184.out 0
         have hfz37_1 := blk_frozen BK184.out 1
         have hfz37_2 := blk_frozen BK184.out 2
         have hfz37_3 := blk_frozen BK184.out 3
         go_wp2
         go_ret
         exact ⟨er_, bl1_ HB.out GE184.out⟩
        ·
         rw [if_neg c36] at H
         have c36b0 := beq_eq_false_iff_ne.mpr c36
         have c36b1 := bne_iff_ne.mpr c36
         obtain rfl := Option.some.inj H
         have hcz38_0 := cz_ (.int .i64 a0_0) BK184.out 0
         have hcz38_1 := cz_ (.string a0_1) BK184.out 1
         have hcz38_2 := cz_ (.int .i64 a0_2) BK184.out 2
         have hcz38_3 := cz_ (.int .i64 a0_3) BK184.out 3
         have hfz38_0 := blk_frozen BK184.out 0
         have hfz38_1 := blk_frozen BK184.out 1
         have hfz38_2 := blk_frozen BK184.out 2
         have hfz38_3 := blk_frozen BK184.out 3
         go_wp2
         go_ret
         exact ⟨er_, bl1_ HB.out GE184.out⟩
def lexer_Spell.f (k : Nat) (a0_0 : Int) (a0_1 : ByteArray) (a0_2 : Int) (a0_3 : Int) : Option (ByteArray × Int) := (lexer_Valid.f k a0_0 a0_1 a0_2 a0_3).bind fun t359 => (if t359 = true then (if a0_0 = 3 then (if 1 + a0_1.size ≤ 9223372036854775807 then (if ((⟨#[34]⟩ : ByteArray) ++ a0_1).size + 1 ≤ 9223372036854775807 then (some (((⟨#[34]⟩ : ByteArray) ++ a0_1) ++ (⟨#[34]⟩ : ByteArray), 0)) else (none)) else (none)) else (if a0_0 = 2 then ((strconv_FormatInt.f (wrap64 (a0_2 + 1000)) 10).bind fun t360 => ((strconv_FormatInt.f (wrap64 (Int.tdiv a0_2 1000)) 10).bind fun t361 => (if 0 ≤ (wrap64 ((t360.size : Int) - 3)) then (if (wrap64 ((t360.size : Int) - 3)) ≤ (t360.size : Int) then ((strings_TrimRight.f (t360.extract ((wrap64 ((t360.size : Int) - 3)) : Int).toNat t360.size) (⟨#[48]⟩ : ByteArray)).bind fun t362 => (if t362.toList = ([] : List UInt8) then (some (t361, 0)) else (if t361.size + 1 ≤ 9223372036854775807 then (if (t361 ++ (⟨#[46]⟩ : ByteArray)).size + t362.size ≤ 9223372036854775807 then (some ((t361 ++ (⟨#[46]⟩ : ByteArray)) ++ t362, 0)) else (none)) else (none)))) else (none)) else (none)))) else (some (a0_1, 0)))) else (some ((⟨#[]⟩ : ByteArray), 1)))
theorem lexer_Spell.mono : ∀ a0 a1 a2 a3 k, LeO (lexer_Spell.f k a0 a1 a2 a3) (lexer_Spell.f (k + 1) a0 a1 a2 a3) := by
 intro a0 a1 a2 a3 k
 unfold lexer_Spell.f
 repeat' first
   | (with_reducible exact LeO.refl _)
   | exact lexer_Valid.mono _ _ _ _ _
   | exact LeO.none _
   | refine LeO.ite ?_ ?_
   | refine LeO.bind ?_ (fun _ => ?_)
set_option maxHeartbeats 8000000 in
set_option maxRecDepth 100000 in
theorem lexer_Spell.calls (k : Nat) (a0_0 : Int) (a0_1 : ByteArray) (a0_2 : Int) (a0_3 : Int) (r1 : ByteArray) (r2 : Int) (w : World) (hG : Gl w) (h : lexer_Spell.f k a0_0 a0_1 a0_2 a0_3 = some (r1, r2)) :
  Calls Tryd.prog 35 #[.agg #[.int .i64 a0_0, .string a0_1, .int .i64 a0_2, .int .i64 a0_3]] w fun e w' => e = .returned (.tuple #[.string r1, .int .i64 r2]) ∧ Below w.heap.size w w' := by
 have hu46 := Tryd.underlying46
 have HB := Aside0.mk (Below.refl w.heap.size w)
 have H : ((lexer_Valid.f k a0_0 a0_1 a0_2 a0_3).bind fun t359 => (if t359 = true then (if a0_0 = 3 then (if 1 + a0_1.size ≤ 9223372036854775807 then (if ((⟨#[34]⟩ : ByteArray) ++ a0_1).size + 1 ≤ 9223372036854775807 then (some (((⟨#[34]⟩ : ByteArray) ++ a0_1) ++ (⟨#[34]⟩ : ByteArray), 0)) else (none)) else (none)) else (if a0_0 = 2 then ((strconv_FormatInt.f (wrap64 (a0_2 + 1000)) 10).bind fun t360 => ((strconv_FormatInt.f (wrap64 (Int.tdiv a0_2 1000)) 10).bind fun t361 => (if 0 ≤ (wrap64 ((t360.size : Int) - 3)) then (if (wrap64 ((t360.size : Int) - 3)) ≤ (t360.size : Int) then ((strings_TrimRight.f (t360.extract ((wrap64 ((t360.size : Int) - 3)) : Int).toNat t360.size) (⟨#[48]⟩ : ByteArray)).bind fun t362 => (if t362.toList = ([] : List UInt8) then (some (t361, 0)) else (if t361.size + 1 ≤ 9223372036854775807 then (if (t361 ++ (⟨#[46]⟩ : ByteArray)).size + t362.size ≤ 9223372036854775807 then (some ((t361 ++ (⟨#[46]⟩ : ByteArray)) ++ t362, 0)) else (none)) else (none)))) else (none)) else (none)))) else (some (a0_1, 0)))) else (some ((⟨#[]⟩ : ByteArray), 1)))) = some (r1, r2) := h
 clear h
 replace H := Option.bind_eq_some_iff.mp H
 obtain ⟨t359, A20, H⟩ := H
 (try dsimp only at H)
 have A2 := Aside0.mk A20
 clear A20
 by_cases c3 : t359 = true
 ·
  subst c3
  have H1 : (if a0_0 = 3 then (if 1 + a0_1.size ≤ 9223372036854775807 then (if ((⟨#[34]⟩ : ByteArray) ++ a0_1).size + 1 ≤ 9223372036854775807 then (some (((⟨#[34]⟩ : ByteArray) ++ a0_1) ++ (⟨#[34]⟩ : ByteArray), 0)) else (none)) else (none)) else (if a0_0 = 2 then ((strconv_FormatInt.f (wrap64 (a0_2 + 1000)) 10).bind fun t360 => ((strconv_FormatInt.f (wrap64 (Int.tdiv a0_2 1000)) 10).bind fun t361 => (if 0 ≤ (wrap64 ((t360.size : Int) - 3)) then (if (wrap64 ((t360.size : Int) - 3)) ≤ (t360.size : Int) then ((strings_TrimRight.f (t360.extract ((wrap64 ((t360.size : Int) - 3)) : Int).toNat t360.size) (⟨#[48]⟩ : ByteArray)).bind fun t362 => (if t362.toList = ([] : List UInt8) then (some (t361, 0)) else (if t361.size + 1 ≤ 9223372036854775807 then (if (t361 ++ (⟨#[46]⟩ : ByteArray)).size + t362.size ≤ 9223372036854775807 then (some ((t361 ++ (⟨#[46]⟩ : ByteArray)) ++ t362, 0)) else (none)) else (none)))) else (none)) else (none)))) else (some (a0_1, 0)))) = some (r1, r2) := by rw [if_pos rfl] at H; exact H
  clear H
  have H := H1
  clear H1
  by_cases c4 : a0_0 = 3
  ·
   rw [if_pos c4] at H
   have c4b0 := beq_iff_eq.mpr c4
   have c4b1 := bne_eq_false_iff_eq.mpr c4
   clear c4
   by_cases c5 : 1 + a0_1.size ≤ 9223372036854775807
   ·
    rw [if_pos c5] at H
    have c5b0 := eq_true c5
    have c5b1 := decide_eq_true c5
    try have c5b2 : (9223372036854775807 < 1 + a0_1.size) = False := eq_false (Nat.not_lt.2 c5)
    by_cases c6 : ((⟨#[34]⟩ : ByteArray) ++ a0_1).size + 1 ≤ 9223372036854775807
    ·
     rw [if_pos c6] at H
     have c6b0 := eq_true c6
     have c6b1 := decide_eq_true c6
     (try (have c6b3 : (9223372036854775807 < 1 + a0_1.size + 1) = False := eq_false (Nat.not_lt.2 (by have h_ := c6; simp only [ByteArray.size_append] at h_; exact h_))))
     (try (have c6b4 : (1 + a0_1.size + 1 ≤ 9223372036854775807) = True := eq_true (by have h_ := c6; simp only [ByteArray.size_append] at h_; exact h_)))
     try have c6b2 : (9223372036854775807 < ((⟨#[34]⟩ : ByteArray) ++ a0_1).size + 1) = False := eq_false (Nat.not_lt.2 c6)
     simp only [Option.some.injEq, Prod.mk.injEq] at H
     obtain ⟨rfl, rfl⟩ := H
     go_enter Tryd.func35, Tryd.ntmps35
     go_wp2_with (first | ((with_reducible refine gate_dst (N := 1) rfl ?_); refine bx_ (N := 1) (cs := #[.int .i64 a0_0, .string a0_1, .int .i64 a0_2, .int .i64 a0_3]) (t := 46) ?_; intro gb358 hg w7 hbox hb; refine cut4_ (below_step (bl_ HB.out) hb) (hbox) (bz_ (w := w) hg (bl_ HB.out)) (bz_ (w := w) hg (bl_ HB.out)) ?_; clear HB; intro HB BK358 GW358 GE358; clear hb hbox hg; obtain ⟨hcz8_0, hcz8_1, hcz8_2, hcz8_3, hfz8_0, hfz8_1, hfz8_2, hfz8_3⟩ := cq4_ BK358.out) | ((with_reducible refine gate_callee (f := 36) rfl ?_); refine goesL_ (some 8) rfl rfl Tryd.func36 (by kernel_rfl) rfl #[.agg #[.int .i64 a0_0, .string a0_1, .int .i64 a0_2, .int .i64 a0_3]] rfl ga_ ?_; (with_reducible refine (lexer_Valid.calls k a0_0 a0_1 a0_2 a0_3 true _ A2.out).mono ?_); rintro e w9 ⟨rfl, hb⟩; refine ⟨_, rfl, ?_⟩; refine cut2_ (bb_ BK358.out hb) (below_step (bl1_ HB.out GE358.out) hb) ?_; clear BK358 HB; intro BK358 HB; (try clear hb); (try clear hb2); (try clear hk); (try clear hi); obtain ⟨hcz10_0, hcz10_1, hcz10_2, hcz10_3, hfz10_0, hfz10_1, hfz10_2, hfz10_3⟩ := cq4_ BK358.out))
     go_ret2
     exact ⟨er_, bl1_ HB.out GE358.out⟩
    ·
     rw [if_neg c6] at H
     exact absurd H (by simp)
   ·
    rw [if_neg c5] at H
    exact absurd H (by simp)
  ·
   rw [if_neg c4] at H
   have c4b0 := beq_eq_false_iff_ne.mpr c4
   have c4b1 := bne_iff_ne.mpr c4
   by_cases c11 : a0_0 = 2
   ·
    rw [if_pos c11] at H
    have c11b0 := beq_iff_eq.mpr c11
    have c11b1 := bne_eq_false_iff_eq.mpr c11
    clear c11
    replace H := Option.bind_eq_some_iff.mp H
    obtain ⟨t360, A120, H⟩ := H
    (try dsimp only at H)
    have A12 := Aside0.mk A120
    clear A120
    replace H := Option.bind_eq_some_iff.mp H
    obtain ⟨t361, A130, H⟩ := H
    (try dsimp only at H)
    have A13 := Aside0.mk A130
    clear A130
    obtain ⟨ji14, hji14⟩ : ∃ j_ : Int, (wrap64 ((t360.size : Int) - 3)) = j_ := ⟨_, rfl⟩
    replace H : (if 0 ≤ (ji14) then (if (ji14) ≤ (t360.size : Int) then ((strings_TrimRight.f (t360.extract ((ji14) : Int).toNat t360.size) (⟨#[48]⟩ : ByteArray)).bind fun t362 => (if t362.toList = ([] : List UInt8) then (some (t361, 0)) else (if t361.size + 1 ≤ 9223372036854775807 then (if (t361 ++ (⟨#[46]⟩ : ByteArray)).size + t362.size ≤ 9223372036854775807 then (some ((t361 ++ (⟨#[46]⟩ : ByteArray)) ++ t362, 0)) else (none)) else (none)))) else (none)) else (none)) = some (r1, r2) := by first | (rw [hji14] at H; exact H) | (simp only [hji14] at H ⊢; exact H)
    (try rw [hji14] at A2)
    (try rw [hji14] at A12)
    (try rw [hji14] at A13)
    have hji14w : (IntKind.i64.wrap ((t360.size : Int) - 3)) = ji14 := (i64_w _).trans hji14
    by_cases c15 : 0 ≤ (ji14)
    ·
     rw [if_pos c15] at H
     have c15b0 := eq_true c15
     have c15b1 := decide_eq_true c15
     clear c15
     by_cases c16 : (ji14) ≤ (t360.size : Int)
     ·
      rw [if_pos c16] at H
      have c16b0 := eq_true c16
      have c16b1 := decide_eq_true c16
      clear c16
      replace H := Option.bind_eq_some_iff.mp H
      obtain ⟨t362, A170, H⟩ := H
      (try dsimp only at H)
      have A17 := Aside0.mk A170
      clear A170
      by_cases c18 : t362.toList = ([] : List UInt8)
      ·
       rw [if_pos c18] at H
       have c18b0 := beq_iff_eq.mpr c18
       have c18b1 := bne_eq_false_iff_eq.mpr c18
       clear c18
       simp only [Option.some.injEq, Prod.mk.injEq] at H
       obtain ⟨rfl, rfl⟩ := H
       go_enter Tryd.func35, Tryd.ntmps35
       go_wp2_with (first | ((with_reducible refine gate_dst (N := 1) rfl ?_); refine bx_ (N := 1) (cs := #[.int .i64 a0_0, .string a0_1, .int .i64 a0_2, .int .i64 a0_3]) (t := 46) ?_; intro gb358 hg w19 hbox hb; refine cut4_ (below_step (bl_ HB.out) hb) (hbox) (bz_ (w := w) hg (bl_ HB.out)) (bz_ (w := w) hg (bl_ HB.out)) ?_; clear HB; intro HB BK358 GW358 GE358; clear hb hbox hg; obtain ⟨hcz20_0, hcz20_1, hcz20_2, hcz20_3, hfz20_0, hfz20_1, hfz20_2, hfz20_3⟩ := cq4_ BK358.out) | ((with_reducible refine gate_callee (f := 36) rfl ?_); refine goesL_ (some 8) rfl rfl Tryd.func36 (by kernel_rfl) rfl #[.agg #[.int .i64 a0_0, .string a0_1, .int .i64 a0_2, .int .i64 a0_3]] rfl ga_ ?_; (with_reducible refine (lexer_Valid.calls k a0_0 a0_1 a0_2 a0_3 true _ A2.out).mono ?_); rintro e w21 ⟨rfl, hb⟩; refine ⟨_, rfl, ?_⟩; refine cut2_ (bb_ BK358.out hb) (below_step (bl1_ HB.out GE358.out) hb) ?_; clear BK358 HB; intro BK358 HB; (try clear hb); (try clear hb2); (try clear hk); (try clear hi); obtain ⟨hcz22_0, hcz22_1, hcz22_2, hcz22_3, hfz22_0, hfz22_1, hfz22_2, hfz22_3⟩ := cq4_ BK358.out) | ((with_reducible refine gate_callee (f := 61) rfl ?_); refine goesL_ (some 23) rfl rfl Tryd.func61 (by kernel_rfl) rfl #[.int .i64 (wrap64 (a0_2 + 1000)), .int .i64 10] rfl ga_ ?_; (with_reducible refine (strconv_FormatInt.calls (wrap64 (a0_2 + 1000)) 10 t360 _ ?side1 A12.out).mono ?_); (case side1 => exact Gl.below hG (bl1_ HB.out GE358.out)); rintro e w23 ⟨rfl, hb⟩; refine ⟨_, rfl, ?_⟩; refine cut2_ (bb_ BK358.out hb) (below_step (bl1_ HB.out GE358.out) hb) ?_; clear BK358 HB; intro BK358 HB; (try clear hb); (try clear hb2); (try clear hk); (try clear hi); obtain ⟨hcz24_0, hcz24_1, hcz24_2, hcz24_3, hfz24_0, hfz24_1, hfz24_2, hfz24_3⟩ := cq4_ BK358.out) | ((with_reducible refine gate_callee (f := 61) rfl ?_); refine goesL_ (some 27) rfl rfl Tryd.func61 (by kernel_rfl) rfl #[.int .i64 (wrap64 (Int.tdiv a0_2 1000)), .int .i64 10] rfl ga_ ?_; (with_reducible refine (strconv_FormatInt.calls (wrap64 (Int.tdiv a0_2 1000)) 10 t361 _ ?side1 A13.out).mono ?_); (case side1 => exact Gl.below hG (bl1_ HB.out GE358.out)); rintro e w25 ⟨rfl, hb⟩; refine ⟨_, rfl, ?_⟩; refine cut2_ (bb_ BK358.out hb) (below_step (bl1_ HB.out GE358.out) hb) ?_; clear BK358 HB; intro BK358 HB; (try clear hb); (try clear hb2); (try clear hk); (try clear hi)) | ((with_reducible refine gate_callee (f := 62) rfl ?_); refine goesL_ (some 33) rfl rfl Tryd.func62 (by kernel_rfl) rfl #[.string (t360.extract ((ji14) : Int).toNat t360.size), .string (⟨#[48]⟩ : ByteArray)] rfl (by (try simp only [List.map_toArray, List.map_cons, List.map_nil]); first | done | (simp only [hji14]; rfl) | rfl | (simp only [List.length_drop, List.length_take]; rfl)) ?_; (with_reducible refine (strings_TrimRight.calls (t360.extract ((ji14) : Int).toNat t360.size) (⟨#[48]⟩ : ByteArray) t362 _ A17.out).mono ?_); rintro e w26 ⟨rfl, hb⟩; refine ⟨_, rfl, ?_⟩; refine cut2_ (bb_ BK358.out hb) (below_step (bl1_ HB.out GE358.out) hb) ?_; clear BK358 HB; intro BK358 HB; (try clear hb); (try clear hb2); (try clear hk); (try clear hi)))
       go_ret2
       exact ⟨by first | rfl | (simp [errW_none, errW_some] <;> rfl) | (simp only [← hji14]; first | rfl | (simp [errW_none, errW_some] <;> rfl)) | (simp [*, errW_none, errW_some] <;> rfl), bl1_ HB.out GE358.out⟩
      ·
       rw [if_neg c18] at H
       have c18b0 := beq_eq_false_iff_ne.mpr c18
       have c18b1 := bne_iff_ne.mpr c18
       by_cases c27 : t361.size + 1 ≤ 9223372036854775807
       ·
        rw [if_pos c27] at H
        have c27b0 := eq_true c27
        have c27b1 := decide_eq_true c27
        try have c27b2 : (9223372036854775807 < t361.size + 1) = False := eq_false (Nat.not_lt.2 c27)
        by_cases c28 : (t361 ++ (⟨#[46]⟩ : ByteArray)).size + t362.size ≤ 9223372036854775807
        ·
         rw [if_pos c28] at H
         have c28b0 := eq_true c28
         have c28b1 := decide_eq_true c28
         (try (have c28b3 : (9223372036854775807 < t361.size + 1 + t362.size) = False := eq_false (Nat.not_lt.2 (by have h_ := c28; simp only [ByteArray.size_append] at h_; exact h_))))
         (try (have c28b4 : (t361.size + 1 + t362.size ≤ 9223372036854775807) = True := eq_true (by have h_ := c28; simp only [ByteArray.size_append] at h_; exact h_)))
         try have c28b2 : (9223372036854775807 < (t361 ++ (⟨#[46]⟩ : ByteArray)).size + t362.size) = False := eq_false (Nat.not_lt.2 c28)
         simp only [Option.some.injEq, Prod.mk.injEq] at H
         obtain ⟨rfl, rfl⟩ := H
         go_enter Tryd.func35, Tryd.ntmps35
         go_wp2_with (first | ((with_reducible refine gate_dst (N := 1) rfl ?_); refine bx_ (N := 1) (cs := #[.int .i64 a0_0, .string a0_1, .int .i64 a0_2, .int .i64 a0_3]) (t := 46) ?_; intro gb358 hg w29 hbox hb; refine cut4_ (below_step (bl_ HB.out) hb) (hbox) (bz_ (w := w) hg (bl_ HB.out)) (bz_ (w := w) hg (bl_ HB.out)) ?_; clear HB; intro HB BK358 GW358 GE358; clear hb hbox hg; obtain ⟨hcz30_0, hcz30_1, hcz30_2, hcz30_3, hfz30_0, hfz30_1, hfz30_2, hfz30_3⟩ := cq4_ BK358.out) | ((with_reducible refine gate_callee (f := 36) rfl ?_); refine goesL_ (some 8) rfl rfl Tryd.func36 (by kernel_rfl) rfl #[.agg #[.int .i64 a0_0, .string a0_1, .int .i64 a0_2, .int .i64 a0_3]] rfl ga_ ?_; (with_reducible refine (lexer_Valid.calls k a0_0 a0_1 a0_2 a0_3 true _ A2.out).mono ?_); rintro e w31 ⟨rfl, hb⟩; refine ⟨_, rfl, ?_⟩; refine cut2_ (bb_ BK358.out hb) (below_step (bl1_ HB.out GE358.out) hb) ?_; clear BK358 HB; intro BK358 HB; (try clear hb); (try clear hb2); (try clear hk); (try clear hi); obtain ⟨hcz32_0, hcz32_1, hcz32_2, hcz32_3, hfz32_0, hfz32_1, hfz32_2, hfz32_3⟩ := cq4_ BK358.out) | ((with_reducible refine gate_callee (f := 61) rfl ?_); refine goesL_ (some 23) rfl rfl Tryd.func61 (by kernel_rfl) rfl #[.int .i64 (wrap64 (a0_2 + 1000)), .int .i64 10] rfl ga_ ?_; (with_reducible refine (strconv_FormatInt.calls (wrap64 (a0_2 + 1000)) 10 t360 _ ?side1 A12.out).mono ?_); (case side1 => exact Gl.below hG (bl1_ HB.out GE358.out)); rintro e w33 ⟨rfl, hb⟩; refine ⟨_, rfl, ?_⟩; refine cut2_ (bb_ BK358.out hb) (below_step (bl1_ HB.out GE358.out) hb) ?_; clear BK358 HB; intro BK358 HB; (try clear hb); (try clear hb2); (try clear hk); (try clear hi); obtain ⟨hcz34_0, hcz34_1, hcz34_2, hcz34_3, hfz34_0, hfz34_1, hfz34_2, hfz34_3⟩ := cq4_ BK358.out) | ((with_reducible refine gate_callee (f := 61) rfl ?_); refine goesL_ (some 27) rfl rfl Tryd.func61 (by kernel_rfl) rfl #[.int .i64 (wrap64 (Int.tdiv a0_2 1000)), .int .i64 10] rfl ga_ ?_; (with_reducible refine (strconv_FormatInt.calls (wrap64 (Int.tdiv a0_2 1000)) 10 t361 _ ?side1 A13.out).mono ?_); (case side1 => exact Gl.below hG (bl1_ HB.out GE358.out)); rintro e w35 ⟨rfl, hb⟩; refine ⟨_, rfl, ?_⟩; refine cut2_ (bb_ BK358.out hb) (below_step (bl1_ HB.out GE358.out) hb) ?_; clear BK358 HB; intro BK358 HB; (try clear hb); (try clear hb2); (try clear hk); (try clear hi)) | ((with_reducible refine gate_callee (f := 62) rfl ?_); refine goesL_ (some 33) rfl rfl Tryd.func62 (by kernel_rfl) rfl #[.string (t360.extract ((ji14) : Int).toNat t360.size), .string (⟨#[48]⟩ : ByteArray)] rfl (by (try simp only [List.map_toArray, List.map_cons, List.map_nil]); first | done | (simp only [hji14]; rfl) | rfl | (simp only [List.length_drop, List.length_take]; rfl)) ?_; (with_reducible refine (strings_TrimRight.calls (t360.extract ((ji14) : Int).toNat t360.size) (⟨#[48]⟩ : ByteArray) t362 _ A17.out).mono ?_); rintro e w36 ⟨rfl, hb⟩; refine ⟨_, rfl, ?_⟩; refine cut2_ (bb_ BK358.out hb) (below_step (bl1_ HB.out GE358.out) hb) ?_; clear BK358 HB; intro BK358 HB; (try clear hb); (try clear hb2); (try clear hk); (try clear hi)))
         go_ret2
         exact ⟨by first | rfl | (simp [errW_none, errW_some] <;> rfl) | (simp only [← hji14]; first | rfl | (simp [errW_none, errW_some] <;> rfl)) | (simp [*, errW_none, errW_some] <;> rfl), bl1_ HB.out GE358.out⟩
        ·
         rw [if_neg c28] at H
         exact absurd H (by simp)
       ·
        rw [if_neg c27] at H
        exact absurd H (by simp)
     ·
      rw [if_neg c16] at H
      exact absurd H (by simp)
    ·
     rw [if_neg c15] at H
     exact absurd H (by simp)
   ·
    rw [if_neg c11] at H
    have c11b0 := beq_eq_false_iff_ne.mpr c11
    have c11b1 := bne_iff_ne.mpr c11
    simp only [Option.some.injEq, Prod.mk.injEq] at H
    obtain ⟨rfl, rfl⟩ := H
    go_enter Tryd.func35, Tryd.ntmps35
    go_wp2_with (first | ((with_reducible refine gate_dst (N := 1) rfl ?_); refine bx_ (N := 1) (cs := #[.int .i64 a0_0, .string a0_1, .int .i64 a0_2, .int .i64 a0_3]) (t := 46) ?_; intro gb358 hg w37 hbox hb; refine cut4_ (below_step (bl_ HB.out) hb) (hbox) (bz_ (w := w) hg (bl_ HB.out)) (bz_ (w := w) hg (bl_ HB.out)) ?_; clear HB; intro HB BK358 GW358 GE358; clear hb hbox hg; obtain ⟨hcz38_0, hcz38_1, hcz38_2, hcz38_3, hfz38_0, hfz38_1, hfz38_2, hfz38_3⟩ := cq4_ BK358.out) | ((with_reducible refine gate_callee (f := 36) rfl ?_); refine goesL_ (some 8) rfl rfl Tryd.func36 (by kernel_rfl) rfl #[.agg #[.int .i64 a0_0, .string a0_1, .int .i64 a0_2, .int .i64 a0_3]] rfl ga_ ?_; (with_reducible refine (lexer_Valid.calls k a0_0 a0_1 a0_2 a0_3 true _ A2.out).mono ?_); rintro e w39 ⟨rfl, hb⟩; refine ⟨_, rfl, ?_⟩; refine cut2_ (bb_ BK358.out hb) (below_step (bl1_ HB.out GE358.out) hb) ?_; clear BK358 HB; intro BK358 HB; (try clear hb); (try clear hb2); (try clear hk); (try clear hi); obtain ⟨hcz40_0, hcz40_1, hcz40_2, hcz40_3, hfz40_0, hfz40_1, hfz40_2, hfz40_3⟩ := cq4_ BK358.out))
    go_ret2
    exact ⟨er_, bl1_ HB.out GE358.out⟩
 ·
  replace c3 := Bool.eq_false_iff.mpr c3
  subst c3
  have H1 : (some ((⟨#[]⟩ : ByteArray), 1)) = some (r1, r2) := by rw [if_neg (show ¬ (false = true) by decide)] at H; exact H
  clear H
  have H := H1
  clear H1
  simp only [Option.some.injEq, Prod.mk.injEq] at H
  obtain ⟨rfl, rfl⟩ := H
  go_enter Tryd.func35, Tryd.ntmps35
  go_wp2_with (first | ((with_reducible refine gate_dst (N := 1) rfl ?_); refine bx_ (N := 1) (cs := #[.int .i64 a0_0, .string a0_1, .int .i64 a0_2, .int .i64 a0_3]) (t := 46) ?_; intro gb358 hg w41 hbox hb; refine cut4_ (below_step (bl_ HB.out) hb) (hbox) (bz_ (w := w) hg (bl_ HB.out)) (bz_ (w := w) hg (bl_ HB.out)) ?_; clear HB; intro HB BK358 GW358 GE358; clear hb hbox hg; obtain ⟨hcz42_0, hcz42_1, hcz42_2, hcz42_3, hfz42_0, hfz42_1, hfz42_2, hfz42_3⟩ := cq4_ BK358.out) | ((with_reducible refine gate_callee (f := 36) rfl ?_); refine goesL_ (some 8) rfl rfl Tryd.func36 (by kernel_rfl) rfl #[.agg #[.int .i64 a0_0, .string a0_1, .int .i64 a0_2, .int .i64 a0_3]] rfl ga_ ?_; (with_reducible refine (lexer_Valid.calls k a0_0 a0_1 a0_2 a0_3 false _ A2.out).mono ?_); rintro e w43 ⟨rfl, hb⟩; refine ⟨_, rfl, ?_⟩; refine cut2_ (bb_ BK358.out hb) (below_step (bl1_ HB.out GE358.out) hb) ?_; clear BK358 HB; intro BK358 HB; (try clear hb); (try clear hb2); (try clear hk); (try clear hi)))
  go_ret2
  exact ⟨er_, bl1_ HB.out GE358.out⟩
end Go.Proofs.YtkifdadhojbohaaDoor.Pr
namespace Go.Proofs.YtkifdadhojbohaaDoor.Pu
open Go.RowKit Go.Proofs.YtkifdadhojbohaaDoor Go.Proofs.YtkifdadhojbohaaDoor.Pr Go.Proofs.YtkifdadhojbohaaDoorW.PrintWords Go.Proofs.YtkifdadhojbohaaDoorW.PrintLast
theorem isWord_f (s : ByteArray) (hs : s.size ≤ 1000000) : Ev (fun k => lexer_isWord.f k s) ((lst s).all isRunB && wordL (lst s) == 0) := by
  have loop : ∀ (d i : Nat) (l : List UInt8), i ≤ s.size → s.size - i = d → (lst s).drop i = l → Ev (fun k => lexer_isWord.l0 k s s.size i) (l.all isRunB && wordL (lst s) == 0) := by
    intro d
    induction d with
    | zero =>
      intro i l hi hd hl
      obtain rfl : i = s.size := by omega
      obtain rfl : l = [] := by rw [← hl]; exact List.drop_eq_nil_of_le (by rw [lst_length]; omega)
      refine Ev.succ ?_
      simp only [lexer_isWord.l0]
      exact Ev.ifn (by omega) (Ev.bind (word_f s hs) (Ev.ret (by simp)))
    | succ d ih =>
      intro i l hi hd hl
      cases l with
      | nil => exact absurd (at_nil hi hl) (by omega)
      | cons c l =>
        obtain ⟨h1, h2, h3⟩ := at_cons hl
        refine Ev.succ ?_
        simp only [lexer_isWord.l0]
        rw [h2, wrap_nat i (by omega)]
        refine Ev.ifp (by omega) (Ev.ifp (by omega) (Ev.ifp (by omega) (Ev.val (isRun_f c) ?_)))
        by_cases hr : isRunB c = true
        · refine Ev.ifp hr ?_
          have := ih (i + 1) l (by omega) (by omega) h3
          rw [List.all_cons, hr, Bool.true_and]
          exact this
        · refine Ev.ifn hr (Ev.ret ?_)
          rw [Bool.not_eq_true] at hr
          rw [List.all_cons, hr]; rfl
  unfold lexer_isWord.f
  exact loop _ 0 (lst s) (by omega) rfl rfl
theorem list1 (s : ByteArray) (h : s.size = 1) : ∃ c, lst s = [c] ∧ bt s 0 = (c.toNat : Int) := by
  obtain ⟨c, hc, hb⟩ := head_bt (s := s) (by omega)
  have hl : (lst s).length = 1 := by rw [lst_length]; exact h
  match hx : lst s, hl with
  | [x], _ =>
    rw [hx] at hc
    simp only [List.head?_cons, Option.some.injEq] at hc
    subst hc
    exact ⟨x, rfl, hb⟩
theorem valid_f (k0 : Int) (s : ByteArray) (hs : s.size ≤ 1000000) (n a : Int) : Ev (fun k => lexer_Valid.f k k0 s n a) (validB k0 (lst s) n) := by
  have j0 : Ev (fun k => lexer_Valid.j0 k false k0 s n a) (validB k0 (lst s) (if k0 = 2 then n else 0)) := by
    refine Ev.succ ?_
    simp only [lexer_Valid.j0]
    refine Ev.ifn (by decide) ?_
    unfold validB
    by_cases h1 : k0 = 1
    · subst h1
      refine Ev.ifp rfl ?_
      by_cases h : s.toList = []
      · refine Ev.ifp h (Ev.ret ?_)
        rw [toList_lst] at h
        rw [h]; rfl
      · refine Ev.ifn h (Ev.bind (isWord_f s hs) (Ev.ret ?_))
        simp
    · refine Ev.ifn h1 ?_
      by_cases h2 : k0 = 2
      · subst h2
        refine Ev.ifp rfl ?_
        by_cases h : s.toList = []
        · refine Ev.ifp h ?_
          rw [toList_lst] at h
          by_cases h3 : 0 ≤ n
          · exact Ev.ifp h3 (Ev.ret (by simp [h, h3]))
          · exact Ev.ifn h3 (Ev.ret (by simp [h, h3]))
        · refine Ev.ifn h (Ev.ret ?_)
          rw [toList_lst] at h
          simp [h]
      · refine Ev.ifn h2 ?_
        by_cases h3 : k0 = 3
        · subst h3
          exact Ev.ifp rfl (Ev.bind (title_f s hs) (Ev.ret (by simp)))
        · refine Ev.ifn h3 ?_
          by_cases h4 : k0 = 4
          · subst h4
            refine Ev.ifp rfl ?_
            by_cases h : (s.size : Int) = 1
            · obtain ⟨c, hc, hb⟩ := list1 s (by omega)
              refine Ev.ifp h (Ev.val kinds_f (Ev.ifp (by omega) (Ev.ifp (by rw [hb]; omega) (Ev.ifp (by rw [hb]; exact byte_lt c) (Ev.ret ?_)))))
              rw [hb, at_byte, hc]
              simp
              by_cases h5 : kindOf c.toNat = 5
              · simp [h5]
              · rw [beq_eq_false_iff_ne.2 h5, beq_eq_false_iff_ne]; omega
            · refine Ev.ifn h (Ev.ret ?_)
              have : ¬ (lst s).length = 1 := by rw [lst_length]; omega
              simp [this]
          · refine Ev.ifn h4 ?_
            by_cases h5 : k0 = 5
            · subst h5
              exact Ev.ifp rfl (Ev.ret (by rw [toList_lst]; simp))
            · exact Ev.ifn h5 (Ev.ret (by simp [h1, h2, h3, h4, h5]))
  unfold lexer_Valid.f
  by_cases h2 : k0 = 2
  · rw [if_pos h2] at j0
    exact Ev.ifp h2 j0
  · rw [if_neg h2] at j0
    refine Ev.ifn h2 ?_
    by_cases hn : n = 0
    · subst hn; exact j0
    · rw [show (n != 0) = true by simpa using hn]
      refine Ev.succ ?_
      simp only [lexer_Valid.j0]
      exact Ev.ifp (by simp) (Ev.ret (by unfold validB; rw [if_pos ⟨h2, hn⟩]))
theorem Spell_num (m : Nat) (hm : m ≤ 1000000000) (f : ByteArray → ByteArray → Option (ByteArray × Int)) (hf : f (str (Lib.decDigits (m / 1000))) (str (cutZ (three (m % 1000)))) = some (str (numS m), 0)) :
    ((strconv_FormatInt.f (wrap64 ((m : Int) + 1000)) 10).bind fun t360 => ((strconv_FormatInt.f (wrap64 (Int.tdiv (m : Int) 1000)) 10).bind fun t361 => (if 0 ≤ (wrap64 ((t360.size : Int) - 3)) then (if (wrap64 ((t360.size : Int) - 3)) ≤ (t360.size : Int) then ((strings_TrimRight.f (t360.extract ((wrap64 ((t360.size : Int) - 3)) : Int).toNat t360.size) (⟨#[48]⟩ : ByteArray)).bind fun t362 => f t361 t362) else (none)) else (none)))) = some (str (numS m), 0) := by
  have e1 : wrap64 (Int.tdiv (m : Int) 1000) = ((m / 1000 : Nat) : Int) := by
    rw [show Int.tdiv (m : Int) 1000 = ((m / 1000 : Nat) : Int) from rfl, wrap64_of (by omega) (by omega)]
  have e2 : wrap64 ((m : Int) + 1000) = (((m / 1000 + 1) * 1000 + m % 1000 : Nat) : Int) := by
    rw [wrap64_of (by omega) (by omega)]; omega
  have hl := dec_len (m / 1000 + 1) (by omega)
  have hl2 := (dec_spec (m / 1000 + 1)).2.2.1
  rw [e1, e2, fmt_f _ (by omega), fmt_f _ (by omega), dec_thousand _ (by omega) _ (by omega)]
  simp only [Option.bind_some]
  have hsz : (str (Lib.decDigits (m / 1000 + 1) ++ three (m % 1000))).size = (Lib.decDigits (m / 1000 + 1)).length + 3 := by
    rw [size_str, List.length_append]; rfl
  rw [hsz, wrap64_of (by omega) (by omega), show (((Lib.decDigits (m / 1000 + 1)).length + 3 : Nat) : Int) - 3 = ((Lib.decDigits (m / 1000 + 1)).length : Int) by omega, if_pos (by omega), if_pos (by omega), Int.toNat_natCast]
  have hx : (str (Lib.decDigits (m / 1000 + 1) ++ three (m % 1000))).extract (Lib.decDigits (m / 1000 + 1)).length ((Lib.decDigits (m / 1000 + 1)).length + 3) = str (three (m % 1000)) := by
    apply lst_inj
    rw [lst_extract, lst_str, lst_str, List.take_of_length_le (by rw [List.length_append]; exact Nat.le_refl _), List.drop_left]
  rw [hx]
  have ht : strings_TrimRight.f (str (three (m % 1000))) (⟨#[48]⟩ : ByteArray) = some (str (cutZ (three (m % 1000)))) := by
    unfold strings_TrimRight.f
    rw [if_pos ⟨rfl, by rw [size_str]; simp [three]⟩]
    rfl
  rw [ht]
  exact hf
theorem Spell_f (k0 : Int) (s : ByteArray) (hs : s.size ≤ 1000000) (n a : Int) : Ev (fun k => lexer_Spell.f k k0 s n a) (if validB k0 (lst s) n = true then (str (spellS k0 (lst s) n), 0) else (⟨#[]⟩, 1)) := by
  unfold lexer_Spell.f
  refine Ev.bind (valid_f k0 s hs n a) ?_
  cases hv : validB k0 (lst s) n with
  | false => exact Ev.ifn (by simp) (Ev.ret (by simp))
  | true =>
    refine Ev.ifp rfl ?_
    rw [if_pos rfl]
    by_cases h3 : k0 = 3
    · subst h3
      refine Ev.ifp rfl (Ev.ifp (by omega) (Ev.ifp ?_ (Ev.ret ?_)))
      · rw [ByteArray.size_append]; show 1 + s.size + 1 ≤ _; omega
      · congr 1
    · refine Ev.ifn h3 ?_
      by_cases h2 : k0 = 2
      · subst h2
        refine Ev.ifp rfl ?_
        have hv2 := hv
        unfold validB at hv2
        rw [if_neg (by rintro ⟨h, _⟩; exact h rfl), if_neg (by decide), if_pos rfl, Bool.and_eq_true, Bool.and_eq_true, decide_eq_true_eq, decide_eq_true_eq, beq_iff_eq] at hv2
        obtain ⟨⟨h0, g0⟩, g1⟩ := hv2
        obtain ⟨m, rfl⟩ : ∃ m : Nat, n = (m : Int) := ⟨n.toNat, by omega⟩
        have e : spellS 2 (lst s) (m : Int) = numS m := by
          unfold spellS
          rw [if_neg (by decide), if_pos rfl, if_pos ⟨g0, g1⟩]; rfl
        rw [e]
        have hl := numS_len m (by omega)
        refine Ev.const (Spell_num m (by omega) _ ?_)
        have hlen : (numS m).length = (Lib.decDigits (m / 1000)).length + (if cutZ (three (m % 1000)) = [] then 0 else (cutZ (three (m % 1000))).length + 1) := by
          unfold numS; rw [List.length_append]; split <;> simp
        by_cases hz : cutZ (three (m % 1000)) = []
        · rw [if_pos (by rw [toList_lst, lst_str]; exact hz)]
          unfold numS; rw [if_pos hz, List.append_nil]
        · rw [if_neg hz] at hlen
          rw [if_neg (by rw [toList_lst, lst_str]; exact hz), show (⟨#[46]⟩ : ByteArray) = str [46] from rfl, str_append, str_append, size_str, size_str, size_str, if_pos (by omega), if_pos (by rw [List.length_append]; simp; omega)]
          unfold numS; rw [if_neg hz]; simp
      · refine Ev.ifn h2 (Ev.ret ?_)
        unfold spellS
        rw [if_neg h3, if_neg h2]
        by_cases h14 : k0 = 1 ∨ k0 = 4
        · rw [if_pos h14, str_lst]
        · rw [if_neg h14]
          have hv2 := hv
          unfold validB at hv2
          by_cases hn : k0 ≠ 2 ∧ n ≠ 0
          · rw [if_pos hn] at hv2; cases hv2
          · rw [if_neg hn, if_neg (fun h => h14 (.inl h)), if_neg h2, if_neg h3, if_neg (fun h => h14 (.inr h))] at hv2
            by_cases h5 : k0 = 5
            · rw [if_pos h5, beq_iff_eq] at hv2
              congr 1
              apply lst_inj; rw [hv2]; rfl
            · rw [if_neg h5] at hv2; cases hv2
end Go.Proofs.YtkifdadhojbohaaDoor.Pu
namespace Go.Proofs.YtkifdadhojbohaaDoor.Pr
open Go.Proofs.YtkifdadhojbohaaDoor
open Go.RowKit Go.Proofs.YtkifdadhojbohaaDoorW.PrintWords Go.Proofs.YtkifdadhojbohaaDoorW.PrintLast Go.Proofs.YtkifdadhojbohaaDoorW.PrintMore
attribute [local go_sem] max2_int min2_int max_two min_two max_three min_three max_four min_four   -- for this text's walks alone
set_option linter.unusedVariables false
set_option linter.unusedSimpArgs false
mutual
def parser_formed.l0 : Nat → List (S41) → Int → Int → Option (Bool)
 | 0, _, _, _ => none
 | k + 1, x7, x8, x9 => if x9 < x8 then (if 0 ≤ x9 then (if x9 < (x7.length : Int) then ((lexer_Valid.f k 1 ((rd_T41 x7 x9).f0) 0 0).bind fun t190 => (if t190 = true then (if ((rd_T41 x7 x9).f2 = true) then (parser_formed.l1 k x7 x8 x9 ((rd_T41 x7 x9).f1) (((rd_T41 x7 x9).f1).length : Int) 0 ((rd_T41 x7 x9).f0) ((rd_T41 x7 x9).f1) ((rd_T41 x7 x9).f2) ((rd_T41 x7 x9).f3) ((rd_T41 x7 x9).f4)) else (if (((rd_T41 x7 x9).f3).length : Int) > 0 then (some false) else (parser_formed.l1 k x7 x8 x9 ((rd_T41 x7 x9).f1) (((rd_T41 x7 x9).f1).length : Int) 0 ((rd_T41 x7 x9).f0) ((rd_T41 x7 x9).f1) ((rd_T41 x7 x9).f2) ((rd_T41 x7 x9).f3) ((rd_T41 x7 x9).f4)))) else (some false))) else (none)) else (none)) else (some true)
def parser_formed.l1 : Nat → List (S41) → Int → Int → List (S46) → Int → Int → ByteArray → List (S46) → Bool → List (S41) → Int → Option (Bool)
 | 0, _, _, _, _, _, _, _, _, _, _, _ => none
 | k + 1, x7, x8, x9, x30, x31, x32, x190000, x190001, x190002, x190003, x190004 => if x32 < x31 then (if 0 ≤ x32 then (if x32 < (x30.length : Int) then ((parser_atom.f ((rd_T46 x30 x32).f0) ((rd_T46 x30 x32).f1) ((rd_T46 x30 x32).f2) ((rd_T46 x30 x32).f3)).bind fun t193 => (if t193 = true then ((lexer_Valid.f k ((rd_T46 x30 x32).f0) ((rd_T46 x30 x32).f1) ((rd_T46 x30 x32).f2) ((rd_T46 x30 x32).f3)).bind fun t194 => (if t194 = true then (parser_formed.l1 k x7 x8 x9 x30 x31 (wrap64 (x32 + 1)) x190000 x190001 x190002 x190003 x190004) else (some false))) else (some false))) else (none)) else (none)) else ((parser_formed.f k x190003).bind fun t195 => (if t195 = true then (parser_formed.l0 k x7 x8 (wrap64 (x9 + 1))) else (some false)))
def parser_formed.f : Nat → List (S41) → Option (Bool)
 | 0, _ => none
 | k + 1, l0 => parser_formed.l0 k l0 (l0.length : Int) 0
end
theorem parser_formed.mono_l : ∀ k, (∀ y0, LeO (parser_formed.f k y0) (parser_formed.f (k + 1) y0)) ∧ (∀ y0 y1 y2, LeO (parser_formed.l0 k y0 y1 y2) (parser_formed.l0 (k + 1) y0 y1 y2)) ∧ (∀ y0 y1 y2 y3 y4 y5 y6 y7 y8 y9 y10, LeO (parser_formed.l1 k y0 y1 y2 y3 y4 y5 y6 y7 y8 y9 y10) (parser_formed.l1 (k + 1) y0 y1 y2 y3 y4 y5 y6 y7 y8 y9 y10))
 | 0 => ⟨fun _ r h => by simp [parser_formed.f] at h, fun _ _ _ r h => by simp [parser_formed.l0] at h, fun _ _ _ _ _ _ _ _ _ _ _ r h => by simp [parser_formed.l1] at h⟩
 | k + 1 => by
  obtain ⟨ih0, ih1, ih2⟩ := parser_formed.mono_l k
  refine ⟨?_, ?_, ?_⟩
  ·
   intro y0
   unfold parser_formed.f
   repeat' first
   | (with_reducible exact LeO.refl _)
   | exact ih0 _
   | exact ih1 _ _ _
   | exact ih2 _ _ _ _ _ _ _ _ _ _ _
   | exact lexer_Valid.mono _ _ _ _ _
   | exact LeO.none _
   | refine LeO.ite ?_ ?_
   | refine LeO.bind ?_ (fun _ => ?_)
  ·
   intro y0 y1 y2
   unfold parser_formed.l0
   repeat' first
   | (with_reducible exact LeO.refl _)
   | exact ih0 _
   | exact ih1 _ _ _
   | exact ih2 _ _ _ _ _ _ _ _ _ _ _
   | exact lexer_Valid.mono _ _ _ _ _
   | exact LeO.none _
   | refine LeO.ite ?_ ?_
   | refine LeO.bind ?_ (fun _ => ?_)
  ·
   intro y0 y1 y2 y3 y4 y5 y6 y7 y8 y9 y10
   unfold parser_formed.l1
   repeat' first
   | (with_reducible exact LeO.refl _)
   | exact ih0 _
   | exact ih1 _ _ _
   | exact ih2 _ _ _ _ _ _ _ _ _ _ _
   | exact lexer_Valid.mono _ _ _ _ _
   | exact LeO.none _
   | refine LeO.ite ?_ ?_
   | refine LeO.bind ?_ (fun _ => ?_)
theorem parser_formed.mono : ∀ a0 k, LeO (parser_formed.f k a0) (parser_formed.f (k + 1) a0) := by
 intro a0 k
 obtain ⟨ih0, ih1, ih2⟩ := parser_formed.mono_l k
 exact ih0 a0
set_option maxHeartbeats 8000000 in
set_option maxRecDepth 100000 in
theorem parser_formed.calls (k : Nat) : ∀ (A0 : Option Addr) (c0 : Nat) (l0 : List (S41)) (r : Bool) (w : World) (hr0 : Kd.C k41 w A0 l0.length l0) (hc0 : l0.length ≤ c0) (h : parser_formed.f k l0 = some r),
  Calls Tryd.prog 56 #[.slice A0 l0.length c0] w fun e w' => e = .returned (.bool r) ∧ Below w.heap.size w w' := by
 induction k using Nat.strongRecOn with
 | _ k ih =>
 intro A0 c0 l0 r w hr0 hc0 h
 cases k with
 | zero => exact absurd h (by simp [parser_formed.f])
 | succ k =>
 simp only [parser_formed.f] at h
 have hu41 := Tryd.underlying41
 have hu46 := Tryd.underlying46
 have HR0 := Aside0.mk hr0
 have HC0 := Aside0.mk hc0
 clear hr0 hc0
 have HB := Aside0.mk (Below.refl w.heap.size w)
 have H : (parser_formed.l0 k l0 (l0.length : Int) 0) = some r := h
 clear h
 have H' := Aside0.mk H
 clear H
 go_enter Tryd.func56, Tryd.ntmps56
 go_wp2
 go_loopg [9] k (fun kq v9 w' => ∃ (x9_1 : Int), v9 = .int .i64 x9_1 ∧ Aside0 (parser_formed.l0 kq l0 (l0.length : Int) x9_1 = some r) ∧ Aside0 (kq ≤ k) ∧ Aside0 (Below w.heap.size w w'))
 case atStart => exact ⟨(0), sr_, H', ⟨Nat.le_refl _⟩, ⟨bl_ HB.out⟩⟩
 case round =>
  clear H'
  obtain ⟨x9_1, rfl, HA, HK1, HB⟩ := hrel
  cases gk with
  | zero => exact absurd HA.out (by simp [parser_formed.l0])
  | succ k1 =>
   have H := HA.out
   clear HA
   simp only [parser_formed.l0] at H
   by_cases c2 : x9_1 < (l0.length : Int)
   ·
    rw [if_pos c2] at H
    have c2b0 := decide_eq_true c2
    clear c2
    by_cases c3 : 0 ≤ x9_1
    ·
     rw [if_pos c3] at H
     have c3b0 := decide_eq_true c3
     clear c3
     by_cases c4 : x9_1 < (l0.length : Int)
     ·
      rw [if_pos c4] at H
      have c4b0 := decide_eq_true c4
      clear c4
      replace H := Option.bind_eq_some_iff.mp H
      obtain ⟨t190, A50, H⟩ := H
      (try dsimp only at H)
      have A5 := Aside0.mk A50
      clear A50
      by_cases c6 : t190 = true
      ·
       subst c6
       have H1 : (if ((rd_T41 l0 x9_1).f2 = true) then (parser_formed.l1 k1 l0 (l0.length : Int) x9_1 ((rd_T41 l0 x9_1).f1) (((rd_T41 l0 x9_1).f1).length : Int) 0 ((rd_T41 l0 x9_1).f0) ((rd_T41 l0 x9_1).f1) ((rd_T41 l0 x9_1).f2) ((rd_T41 l0 x9_1).f3) ((rd_T41 l0 x9_1).f4)) else (if (((rd_T41 l0 x9_1).f3).length : Int) > 0 then (some false) else (parser_formed.l1 k1 l0 (l0.length : Int) x9_1 ((rd_T41 l0 x9_1).f1) (((rd_T41 l0 x9_1).f1).length : Int) 0 ((rd_T41 l0 x9_1).f0) ((rd_T41 l0 x9_1).f1) ((rd_T41 l0 x9_1).f2) ((rd_T41 l0 x9_1).f3) ((rd_T41 l0 x9_1).f4)))) = some r := by rw [if_pos rfl] at H; exact H
       clear H
       have H := H1
       clear H1
       obtain ⟨bq7, hbq7⟩ : ∃ b_ : Bool, b_ = ((rd_T41 l0 x9_1).f2) := ⟨_, rfl⟩
       replace H : (if (bq7 = true) then (parser_formed.l1 k1 l0 (l0.length : Int) x9_1 ((rd_T41 l0 x9_1).f1) (((rd_T41 l0 x9_1).f1).length : Int) 0 ((rd_T41 l0 x9_1).f0) ((rd_T41 l0 x9_1).f1) bq7 ((rd_T41 l0 x9_1).f3) ((rd_T41 l0 x9_1).f4)) else (if (((rd_T41 l0 x9_1).f3).length : Int) > 0 then (some false) else (parser_formed.l1 k1 l0 (l0.length : Int) x9_1 ((rd_T41 l0 x9_1).f1) (((rd_T41 l0 x9_1).f1).length : Int) 0 ((rd_T41 l0 x9_1).f0) ((rd_T41 l0 x9_1).f1) bq7 ((rd_T41 l0 x9_1).f3) ((rd_T41 l0 x9_1).f4)))) = some r := by rw [← hbq7] at H; exact H
       have Nbq7 := Aside0.mk hbq7
       clear hbq7
       by_cases c8 : (bq7 = true)
       ·
        subst c8
        have H1 : (parser_formed.l1 k1 l0 (l0.length : Int) x9_1 ((rd_T41 l0 x9_1).f1) (((rd_T41 l0 x9_1).f1).length : Int) 0 ((rd_T41 l0 x9_1).f0) ((rd_T41 l0 x9_1).f1) true ((rd_T41 l0 x9_1).f3) ((rd_T41 l0 x9_1).f4)) = some r := by rw [if_pos rfl] at H; exact H
        clear H
        have H := H1
        clear H1
        have H' := Aside0.mk H
        clear H
        have p188 : 0 ≤ (x9_1 : Int) := dt_
        have q188 : x9_1 < (l0.length : Int) := dt_
        obtain ⟨ad188, A188_1, c188_1, A188_3, c188_3, e188, hx188_0, hx188_1, hx188_2, hx188_3, hx188_4, hl188_1, hi188_1, hl188_3, hi188_3⟩ := at_T41 HR0.out x9_1 p188 q188
        (try rw [← Nbq7.out] at hx188_2)
        cases e188
        replace hx188_0 := pw_cell_below HB.out hx188_0
        replace hx188_1 := pw_cell_below HB.out hx188_1
        replace hx188_2 := pw_cell_below HB.out hx188_2
        replace hx188_3 := pw_cell_below HB.out hx188_3
        replace hx188_4 := pw_cell_below HB.out hx188_4
        have HR188_1 := Aside0.mk hi188_1
        have HC188_1 := Aside0.mk hl188_1
        clear hi188_1 hl188_1
        have HR188_3 := Aside0.mk hi188_3
        have HC188_3 := Aside0.mk hl188_3
        clear hi188_3 hl188_3
        replace p188 := eq_true p188
        replace q188 := eq_true q188
        go_wp2_with (first | ((with_reducible refine gate_dst (N := 4) rfl ?_); (try (refine gate_guard (by rfl) ?_; dsimp only)); refine bx_ (N := 4) (cs := #[.string (⟨#[]⟩ : ByteArray), .slice none 0 0, .bool false, .slice none 0 0, .int .i64 0]) (t := 41) ?_; intro gb189 hg w9 hbox hb; refine cut4_ (below_step (bl_ HB.out) hb) (hbox) (bz_ (w := w) hg (bl_ HB.out)) (bz_ (w := w) hg (bl_ HB.out)) ?_; clear HB; intro HB BK189 GW189 GE189; clear hb hbox hg; obtain ⟨hcz10_0, hcz10_1, hcz10_2, hcz10_3, hcz10_4, hfz10_0, hfz10_1, hfz10_2, hfz10_3, hfz10_4⟩ := cq5_ BK189.out) | ((with_reducible refine gate_callee (f := 36) rfl ?_); refine goesL_ (some 16) rfl rfl Tryd.func36 (by kernel_rfl) rfl #[.agg #[.int .i64 1, .string ((rd_T41 l0 x9_1).f0), .int .i64 0, .int .i64 0]] rfl ga_ ?_; (with_reducible refine (lexer_Valid.calls k1 1 ((rd_T41 l0 x9_1).f0) 0 0 true _ A5.out).mono ?_); rintro e w11 ⟨rfl, hb⟩; refine ⟨_, rfl, ?_⟩; refine cut2_ (blk_below (g := gb189) (o := .cells #[.string ((rd_T41 l0 x9_1).f0), .slice A188_1 ((rd_T41 l0 x9_1).f1).length c188_1, .bool true, .slice A188_3 ((rd_T41 l0 x9_1).f3).length c188_3, .int .i64 ((rd_T41 l0 x9_1).f4)] 41 (0, 0)) (put5_ (bk_ BK189.out)) hb) (below_step (bl1_ HB.out GE189.out) hb) ?_; clear BK189 HB; intro BK189 HB; (try clear hb); (try clear hb2); (try clear hk); (try clear hi); obtain ⟨hcz12_0, hcz12_1, hcz12_2, hcz12_3, hcz12_4, hfz12_0, hfz12_1, hfz12_2, hfz12_3, hfz12_4⟩ := cq5_ BK189.out))
        go_loopg [32] k1 (fun kq v32 w' => ∃ (x32_2 : Int), v32 = .int .i64 x32_2 ∧ Aside0 (parser_formed.l1 kq l0 (l0.length : Int) x9_1 ((rd_T41 l0 x9_1).f1) (((rd_T41 l0 x9_1).f1).length : Int) x32_2 ((rd_T41 l0 x9_1).f0) ((rd_T41 l0 x9_1).f1) true ((rd_T41 l0 x9_1).f3) ((rd_T41 l0 x9_1).f4) = some r) ∧ Aside0 (kq ≤ k1) ∧ Aside0 (w'.heap[gb189]? = some (.cells #[.string ((rd_T41 l0 x9_1).f0), (.slice A188_1 ((rd_T41 l0 x9_1).f1).length c188_1), .bool true, (.slice A188_3 ((rd_T41 l0 x9_1).f3).length c188_3), .int .i64 ((rd_T41 l0 x9_1).f4)] 41 (0, 0))) ∧ Aside0 (Below w.heap.size w w'))
        case atStart => exact ⟨(0), sr_, H', ⟨Nat.le_refl _⟩, ⟨by exact bk_ BK189.out⟩, ⟨bl1_ HB.out GE189.out⟩⟩
        case round =>
         clear H'
         try clear c1
         try clear p1
         try clear q1
         try clear hx1
         try clear c2
         try clear c2b0
         try clear p2
         try clear c3
         try clear c3b0
         try clear c4
         try clear c4b0
         try clear c5
         try clear c6
         try clear q7
         try clear c8
         try clear hcz10_0
         try clear hcz10_1
         try clear hcz10_2
         try clear hcz10_3
         try clear hcz10_4
         try clear hcz12_0
         try clear hcz12_1
         try clear hcz12_2
         try clear hcz12_3
         try clear hcz12_4
         try clear hfz10_0
         try clear hfz10_1
         try clear hfz10_2
         try clear hfz10_3
         try clear hfz10_4
         try clear hfz12_0
         try clear hfz12_1
         try clear hfz12_2
         try clear hfz12_3
         try clear hfz12_4
         try clear hx188_0
         try clear hx188_1
         try clear hx188_2
         try clear hx188_3
         try clear hx188_4
         try clear p188
         try clear q188
         obtain ⟨x32_2, rfl, HA, HK2, BK189, HB⟩ := hrel
         cases gk with
         | zero => exact absurd HA.out (by simp [parser_formed.l1])
         | succ k2 =>
          have H := HA.out
          clear HA
          simp only [parser_formed.l1] at H
          by_cases c13 : x32_2 < (((rd_T41 l0 x9_1).f1).length : Int)
          ·
           rw [if_pos c13] at H
           have c13b0 := decide_eq_true c13
           clear c13
           by_cases c14 : 0 ≤ x32_2
           ·
            rw [if_pos c14] at H
            have c14b0 := decide_eq_true c14
            clear c14
            by_cases c15 : x32_2 < (((rd_T41 l0 x9_1).f1).length : Int)
            ·
             rw [if_pos c15] at H
             have c15b0 := decide_eq_true c15
             clear c15
             replace H := Option.bind_eq_some_iff.mp H
             obtain ⟨t193, A160, H⟩ := H
             (try dsimp only at H)
             have A16 := Aside0.mk A160
             clear A160
             by_cases c17 : t193 = true
             ·
              subst c17
              have H1 : ((lexer_Valid.f k2 ((rd_T46 ((rd_T41 l0 x9_1).f1) x32_2).f0) ((rd_T46 ((rd_T41 l0 x9_1).f1) x32_2).f1) ((rd_T46 ((rd_T41 l0 x9_1).f1) x32_2).f2) ((rd_T46 ((rd_T41 l0 x9_1).f1) x32_2).f3)).bind fun t194 => (if t194 = true then (parser_formed.l1 k2 l0 (l0.length : Int) x9_1 ((rd_T41 l0 x9_1).f1) (((rd_T41 l0 x9_1).f1).length : Int) (wrap64 (x32_2 + 1)) ((rd_T41 l0 x9_1).f0) ((rd_T41 l0 x9_1).f1) true ((rd_T41 l0 x9_1).f3) ((rd_T41 l0 x9_1).f4)) else (some false))) = some r := by rw [if_pos rfl] at H; exact H
              clear H
              have H := H1
              clear H1
              replace H := Option.bind_eq_some_iff.mp H
              obtain ⟨t194, A180, H⟩ := H
              (try dsimp only at H)
              have A18 := Aside0.mk A180
              clear A180
              by_cases c19 : t194 = true
              ·
               subst c19
               have H1 : (parser_formed.l1 k2 l0 (l0.length : Int) x9_1 ((rd_T41 l0 x9_1).f1) (((rd_T41 l0 x9_1).f1).length : Int) (wrap64 (x32_2 + 1)) ((rd_T41 l0 x9_1).f0) ((rd_T41 l0 x9_1).f1) true ((rd_T41 l0 x9_1).f3) ((rd_T41 l0 x9_1).f4)) = some r := by rw [if_pos rfl] at H; exact H
               clear H
               have H := H1
               clear H1
               have H' := Aside0.mk H
               clear H
               have p191 : 0 ≤ (x32_2 : Int) := dt_
               have q191 : x32_2 < (((rd_T41 l0 x9_1).f1).length : Int) := dt_
               obtain ⟨ad191, e191, hx191_0, hx191_1, hx191_2, hx191_3⟩ := at_T46 HR188_1.out x32_2 p191 q191
               cases e191
               replace hx191_0 := pw_cell_below HB.out hx191_0
               replace hx191_1 := pw_cell_below HB.out hx191_1
               replace hx191_2 := pw_cell_below HB.out hx191_2
               replace hx191_3 := pw_cell_below HB.out hx191_3
               replace p191 := eq_true p191
               replace q191 := eq_true q191
               go_wp2_with (first | ((with_reducible refine gate_dst (N := 6) rfl ?_); (try (refine gate_guard (by rfl) ?_; dsimp only)); refine bx_ (N := 6) (cs := #[.int .i64 0, .string (⟨#[]⟩ : ByteArray), .int .i64 0, .int .i64 0]) (t := 46) ?_; intro gb192 hg w20 hbox hb; refine cut7_ (bb_ BK189.out hb) (below_step (bl1_ HB.out GE189.out) hb) (hbox) (bz_ (w := w) hg (bl1_ HB.out GE189.out)) (bz_ (w := w) hg (bl1_ HB.out GE189.out)) (nl_ hg BK189.out) (ng_ hg BK189.out) ?_; clear BK189 HB; intro BK189 HB BK192 GW192 GE192 NB189_192 NB192_189; clear hb hbox hg; have hnb21 := NB192_189.out; have hnc21 := NB189_192.out; obtain ⟨hcz22_0, hcz22_1, hcz22_2, hcz22_3, hfz22_0, hfz22_1, hfz22_2, hfz22_3⟩ := cq4_ BK192.out) | ((with_reducible refine gate_callee (f := 85) rfl ?_); refine goesL_ (some 37) rfl rfl Tryd.func85 (by kernel_rfl) rfl #[.agg #[.int .i64 ((rd_T46 ((rd_T41 l0 x9_1).f1) x32_2).f0), .string ((rd_T46 ((rd_T41 l0 x9_1).f1) x32_2).f1), .int .i64 ((rd_T46 ((rd_T41 l0 x9_1).f1) x32_2).f2), .int .i64 ((rd_T46 ((rd_T41 l0 x9_1).f1) x32_2).f3)]] rfl ga_ ?_; (with_reducible refine (parser_atom.calls ((rd_T46 ((rd_T41 l0 x9_1).f1) x32_2).f0) ((rd_T46 ((rd_T41 l0 x9_1).f1) x32_2).f1) ((rd_T46 ((rd_T41 l0 x9_1).f1) x32_2).f2) ((rd_T46 ((rd_T41 l0 x9_1).f1) x32_2).f3) true _ A16.out).mono ?_); rintro e w23 ⟨rfl, hb⟩; refine ⟨_, rfl, ?_⟩; refine cut3_ (blk_below (g := gb189) (o := .cells #[.string ((rd_T41 l0 x9_1).f0), .slice (some ad191) ((rd_T41 l0 x9_1).f1).length c188_1, .bool true, .slice A188_3 ((rd_T41 l0 x9_1).f3).length c188_3, .int .i64 ((rd_T41 l0 x9_1).f4)] 41 (0, 0)) (far4_ (bk_ BK189.out) NB189_192.out) hb) (blk_below (g := gb192) (o := .cells #[.int .i64 ((rd_T46 ((rd_T41 l0 x9_1).f1) x32_2).f0), .string ((rd_T46 ((rd_T41 l0 x9_1).f1) x32_2).f1), .int .i64 ((rd_T46 ((rd_T41 l0 x9_1).f1) x32_2).f2), .int .i64 ((rd_T46 ((rd_T41 l0 x9_1).f1) x32_2).f3)] 46 (0, 0)) (put4_ (bk_ BK192.out)) hb) (below_step (bl2_ HB.out GE189.out GE192.out) hb) ?_; clear BK189 BK192 HB; intro BK189 BK192 HB; (try clear hb); (try clear hb2); (try clear hk); (try clear hi); obtain ⟨hcz24_0, hcz24_1, hcz24_2, hcz24_3, hfz24_0, hfz24_1, hfz24_2, hfz24_3⟩ := cq4_ BK192.out) | (go_at_call 36; (with_reducible refine (lexer_Valid.calls k2 ((rd_T46 ((rd_T41 l0 x9_1).f1) x32_2).f0) ((rd_T46 ((rd_T41 l0 x9_1).f1) x32_2).f1) ((rd_T46 ((rd_T41 l0 x9_1).f1) x32_2).f2) ((rd_T46 ((rd_T41 l0 x9_1).f1) x32_2).f3) true _ A18.out).mono ?_); rintro e w25 ⟨rfl, hb⟩; refine cut3_ (bb_ BK189.out hb) (bb_ BK192.out hb) (below_step (bl2_ HB.out GE189.out GE192.out) hb) ?_; clear BK189 BK192 HB; intro BK189 BK192 HB; (try clear hb); (try clear hb2); (try clear hk); (try clear hi)))
               go_roundg k2
               case measure => have := HK1.out; have := HK2.out; omega
               case rel => exact ⟨(wrap64 (x32_2 + 1)), sr_, H', ⟨by have := HK1.out; have := HK2.out; omega⟩, ⟨by exact bk_ BK189.out⟩, ⟨bl2_ HB.out GE189.out GE192.out⟩⟩
              ·
               replace c19 := Bool.eq_false_iff.mpr c19
               subst c19
               have H1 : (some false) = some r := by rw [if_neg (show ¬ (false = true) by decide)] at H; exact H
               clear H
               have H := H1
               clear H1
               obtain rfl := Option.some.inj H
               have p191 : 0 ≤ (x32_2 : Int) := dt_
               have q191 : x32_2 < (((rd_T41 l0 x9_1).f1).length : Int) := dt_
               obtain ⟨ad191, e191, hx191_0, hx191_1, hx191_2, hx191_3⟩ := at_T46 HR188_1.out x32_2 p191 q191
               cases e191
               replace hx191_0 := pw_cell_below HB.out hx191_0
               replace hx191_1 := pw_cell_below HB.out hx191_1
               replace hx191_2 := pw_cell_below HB.out hx191_2
               replace hx191_3 := pw_cell_below HB.out hx191_3
               replace p191 := eq_true p191
               replace q191 := eq_true q191
               go_wp2_with (first | ((with_reducible refine gate_dst (N := 6) rfl ?_); (try (refine gate_guard (by rfl) ?_; dsimp only)); refine bx_ (N := 6) (cs := #[.int .i64 0, .string (⟨#[]⟩ : ByteArray), .int .i64 0, .int .i64 0]) (t := 46) ?_; intro gb192 hg w26 hbox hb; refine cut7_ (bb_ BK189.out hb) (below_step (bl1_ HB.out GE189.out) hb) (hbox) (bz_ (w := w) hg (bl1_ HB.out GE189.out)) (bz_ (w := w) hg (bl1_ HB.out GE189.out)) (nl_ hg BK189.out) (ng_ hg BK189.out) ?_; clear BK189 HB; intro BK189 HB BK192 GW192 GE192 NB189_192 NB192_189; clear hb hbox hg; have hnb27 := NB192_189.out; have hnc27 := NB189_192.out; obtain ⟨hcz28_0, hcz28_1, hcz28_2, hcz28_3, hfz28_0, hfz28_1, hfz28_2, hfz28_3⟩ := cq4_ BK192.out) | ((with_reducible refine gate_callee (f := 85) rfl ?_); refine goesL_ (some 37) rfl rfl Tryd.func85 (by kernel_rfl) rfl #[.agg #[.int .i64 ((rd_T46 ((rd_T41 l0 x9_1).f1) x32_2).f0), .string ((rd_T46 ((rd_T41 l0 x9_1).f1) x32_2).f1), .int .i64 ((rd_T46 ((rd_T41 l0 x9_1).f1) x32_2).f2), .int .i64 ((rd_T46 ((rd_T41 l0 x9_1).f1) x32_2).f3)]] rfl ga_ ?_; (with_reducible refine (parser_atom.calls ((rd_T46 ((rd_T41 l0 x9_1).f1) x32_2).f0) ((rd_T46 ((rd_T41 l0 x9_1).f1) x32_2).f1) ((rd_T46 ((rd_T41 l0 x9_1).f1) x32_2).f2) ((rd_T46 ((rd_T41 l0 x9_1).f1) x32_2).f3) true _ A16.out).mono ?_); rintro e w29 ⟨rfl, hb⟩; refine ⟨_, rfl, ?_⟩; refine cut3_ (blk_below (g := gb189) (o := .cells #[.string ((rd_T41 l0 x9_1).f0), .slice (some ad191) ((rd_T41 l0 x9_1).f1).length c188_1, .bool true, .slice A188_3 ((rd_T41 l0 x9_1).f3).length c188_3, .int .i64 ((rd_T41 l0 x9_1).f4)] 41 (0, 0)) (far4_ (bk_ BK189.out) NB189_192.out) hb) (blk_below (g := gb192) (o := .cells #[.int .i64 ((rd_T46 ((rd_T41 l0 x9_1).f1) x32_2).f0), .string ((rd_T46 ((rd_T41 l0 x9_1).f1) x32_2).f1), .int .i64 ((rd_T46 ((rd_T41 l0 x9_1).f1) x32_2).f2), .int .i64 ((rd_T46 ((rd_T41 l0 x9_1).f1) x32_2).f3)] 46 (0, 0)) (put4_ (bk_ BK192.out)) hb) (below_step (bl2_ HB.out GE189.out GE192.out) hb) ?_; clear BK189 BK192 HB; intro BK189 BK192 HB; (try clear hb); (try clear hb2); (try clear hk); (try clear hi); obtain ⟨hcz30_0, hcz30_1, hcz30_2, hcz30_3, hfz30_0, hfz30_1, hfz30_2, hfz30_3⟩ := cq4_ BK192.out) | (go_at_call 36; (with_reducible refine (lexer_Valid.calls k2 ((rd_T46 ((rd_T41 l0 x9_1).f1) x32_2).f0) ((rd_T46 ((rd_T41 l0 x9_1).f1) x32_2).f1) ((rd_T46 ((rd_T41 l0 x9_1).f1) x32_2).f2) ((rd_T46 ((rd_T41 l0 x9_1).f1) x32_2).f3) false _ A18.out).mono ?_); rintro e w31 ⟨rfl, hb⟩; refine cut3_ (bb_ BK189.out hb) (bb_ BK192.out hb) (below_step (bl2_ HB.out GE189.out GE192.out) hb) ?_; clear BK189 BK192 HB; intro BK189 BK192 HB; (try clear hb); (try clear hb2); (try clear hk); (try clear hi)))
               go_ret
               exact ⟨er_, bl2_ HB.out GE189.out GE192.out⟩
             ·
              replace c17 := Bool.eq_false_iff.mpr c17
              subst c17
              have H1 : (some false) = some r := by rw [if_neg (show ¬ (false = true) by decide)] at H; exact H
              clear H
              have H := H1
              clear H1
              obtain rfl := Option.some.inj H
              have p191 : 0 ≤ (x32_2 : Int) := dt_
              have q191 : x32_2 < (((rd_T41 l0 x9_1).f1).length : Int) := dt_
              obtain ⟨ad191, e191, hx191_0, hx191_1, hx191_2, hx191_3⟩ := at_T46 HR188_1.out x32_2 p191 q191
              cases e191
              replace hx191_0 := pw_cell_below HB.out hx191_0
              replace hx191_1 := pw_cell_below HB.out hx191_1
              replace hx191_2 := pw_cell_below HB.out hx191_2
              replace hx191_3 := pw_cell_below HB.out hx191_3
              replace p191 := eq_true p191
              replace q191 := eq_true q191
              go_wp2_with (first | ((with_reducible refine gate_dst (N := 6) rfl ?_); (try (refine gate_guard (by rfl) ?_; dsimp only)); refine bx_ (N := 6) (cs := #[.int .i64 0, .string (⟨#[]⟩ : ByteArray), .int .i64 0, .int .i64 0]) (t := 46) ?_; intro gb192 hg w32 hbox hb; refine cut7_ (bb_ BK189.out hb) (below_step (bl1_ HB.out GE189.out) hb) (hbox) (bz_ (w := w) hg (bl1_ HB.out GE189.out)) (bz_ (w := w) hg (bl1_ HB.out GE189.out)) (nl_ hg BK189.out) (ng_ hg BK189.out) ?_; clear BK189 HB; intro BK189 HB BK192 GW192 GE192 NB189_192 NB192_189; clear hb hbox hg; have hnb33 := NB192_189.out; have hnc33 := NB189_192.out; obtain ⟨hcz34_0, hcz34_1, hcz34_2, hcz34_3, hfz34_0, hfz34_1, hfz34_2, hfz34_3⟩ := cq4_ BK192.out) | ((with_reducible refine gate_callee (f := 85) rfl ?_); refine goesL_ (some 37) rfl rfl Tryd.func85 (by kernel_rfl) rfl #[.agg #[.int .i64 ((rd_T46 ((rd_T41 l0 x9_1).f1) x32_2).f0), .string ((rd_T46 ((rd_T41 l0 x9_1).f1) x32_2).f1), .int .i64 ((rd_T46 ((rd_T41 l0 x9_1).f1) x32_2).f2), .int .i64 ((rd_T46 ((rd_T41 l0 x9_1).f1) x32_2).f3)]] rfl ga_ ?_; (with_reducible refine (parser_atom.calls ((rd_T46 ((rd_T41 l0 x9_1).f1) x32_2).f0) ((rd_T46 ((rd_T41 l0 x9_1).f1) x32_2).f1) ((rd_T46 ((rd_T41 l0 x9_1).f1) x32_2).f2) ((rd_T46 ((rd_T41 l0 x9_1).f1) x32_2).f3) false _ A16.out).mono ?_); rintro e w35 ⟨rfl, hb⟩; refine ⟨_, rfl, ?_⟩; refine cut3_ (blk_below (g := gb189) (o := .cells #[.string ((rd_T41 l0 x9_1).f0), .slice (some ad191) ((rd_T41 l0 x9_1).f1).length c188_1, .bool true, .slice A188_3 ((rd_T41 l0 x9_1).f3).length c188_3, .int .i64 ((rd_T41 l0 x9_1).f4)] 41 (0, 0)) (far4_ (bk_ BK189.out) NB189_192.out) hb) (blk_below (g := gb192) (o := .cells #[.int .i64 ((rd_T46 ((rd_T41 l0 x9_1).f1) x32_2).f0), .string ((rd_T46 ((rd_T41 l0 x9_1).f1) x32_2).f1), .int .i64 ((rd_T46 ((rd_T41 l0 x9_1).f1) x32_2).f2), .int .i64 ((rd_T46 ((rd_T41 l0 x9_1).f1) x32_2).f3)] 46 (0, 0)) (put4_ (bk_ BK192.out)) hb) (below_step (bl2_ HB.out GE189.out GE192.out) hb) ?_; clear BK189 BK192 HB; intro BK189 BK192 HB; (try clear hb); (try clear hb2); (try clear hk); (try clear hi)))
              go_ret
              exact ⟨er_, bl2_ HB.out GE189.out GE192.out⟩
            ·
             rw [if_neg c15] at H
             exact absurd H (by simp)
           ·
            rw [if_neg c14] at H
            exact absurd H (by simp)
          ·
           rw [if_neg c13] at H
           have c13b0 := decide_eq_false c13
           clear c13
           replace H := Option.bind_eq_some_iff.mp H
           obtain ⟨t195, A360, H⟩ := H
           (try dsimp only at H)
           have A36 := Aside0.mk A360
           clear A360
           by_cases c37 : t195 = true
           ·
            subst c37
            have H1 : (parser_formed.l0 k2 l0 (l0.length : Int) (wrap64 (x9_1 + 1))) = some r := by rw [if_pos rfl] at H; exact H
            clear H
            have H := H1
            clear H1
            have H' := Aside0.mk H
            clear H
            have hcz38_0 := cz_ (.string ((rd_T41 l0 x9_1).f0)) BK189.out 0
            have hcz38_1 := cz_ (.slice A188_1 ((rd_T41 l0 x9_1).f1).length c188_1) BK189.out 1
            have hcz38_2 := cz_ (.bool true) BK189.out 2
            have hcz38_3 := cz_ (.slice A188_3 ((rd_T41 l0 x9_1).f3).length c188_3) BK189.out 3
            have hcz38_4 := cz_ (.int .i64 ((rd_T41 l0 x9_1).f4)) BK189.out 4
            have hfz38_0 := blk_frozen BK189.out 0
            have hfz38_1 := blk_frozen BK189.out 1
            have hfz38_2 := blk_frozen BK189.out 2
            have hfz38_3 := blk_frozen BK189.out 3
            have hfz38_4 := blk_frozen BK189.out 4
            go_wp2_with (first | ((with_reducible refine gate_callee (f := 56) rfl ?_); refine goesL_ (some 47) rfl rfl Tryd.func56 (by kernel_rfl) rfl #[.slice A188_3 ((rd_T41 l0 x9_1).f3).length c188_3] rfl ga_ ?_; (with_reducible refine (ih k2 (by have := HK1.out; have := HK2.out; omega) _ _ ((rd_T41 l0 x9_1).f3) true _ ?side1 ?side2 A36.out).mono ?_); (case side1 => repeat (first | exact (Kd.C_below HR188_3.out HB.out) | (with_reducible refine Kd.C_alloc ?_ _) | (with_reducible refine Kd.C_drewN ?_ _) | (with_reducible refine Kd.C_drew ?_))); (case side2 => exact HC188_3.out); rintro e w39 ⟨rfl, hb⟩; refine ⟨_, rfl, ?_⟩; refine cut2_ (bb_ BK189.out hb) (below_step (bl1_ HB.out GE189.out) hb) ?_; clear BK189 HB; intro BK189 HB; (try clear hb); (try clear hb2); (try clear hk); (try clear hi)))
            go_roundg k2
            case measure => have := HK1.out; have := HK2.out; omega
            case rel => exact ⟨(wrap64 (x9_1 + 1)), sr_, H', ⟨by have := HK1.out; have := HK2.out; omega⟩, ⟨bl1_ HB.out GE189.out⟩⟩
           ·
            replace c37 := Bool.eq_false_iff.mpr c37
            subst c37
            have H1 : (some false) = some r := by rw [if_neg (show ¬ (false = true) by decide)] at H; exact H
            clear H
            have H := H1
            clear H1
            obtain rfl := Option.some.inj H
            have hcz40_0 := cz_ (.string ((rd_T41 l0 x9_1).f0)) BK189.out 0
            have hcz40_1 := cz_ (.slice A188_1 ((rd_T41 l0 x9_1).f1).length c188_1) BK189.out 1
            have hcz40_2 := cz_ (.bool true) BK189.out 2
            have hcz40_3 := cz_ (.slice A188_3 ((rd_T41 l0 x9_1).f3).length c188_3) BK189.out 3
            have hcz40_4 := cz_ (.int .i64 ((rd_T41 l0 x9_1).f4)) BK189.out 4
            have hfz40_0 := blk_frozen BK189.out 0
            have hfz40_1 := blk_frozen BK189.out 1
            have hfz40_2 := blk_frozen BK189.out 2
            have hfz40_3 := blk_frozen BK189.out 3
            have hfz40_4 := blk_frozen BK189.out 4
            go_wp2_with (first | ((with_reducible refine gate_callee (f := 56) rfl ?_); refine goesL_ (some 47) rfl rfl Tryd.func56 (by kernel_rfl) rfl #[.slice A188_3 ((rd_T41 l0 x9_1).f3).length c188_3] rfl ga_ ?_; (with_reducible refine (ih k2 (by have := HK1.out; have := HK2.out; omega) _ _ ((rd_T41 l0 x9_1).f3) false _ ?side1 ?side2 A36.out).mono ?_); (case side1 => repeat (first | exact (Kd.C_below HR188_3.out HB.out) | (with_reducible refine Kd.C_alloc ?_ _) | (with_reducible refine Kd.C_drewN ?_ _) | (with_reducible refine Kd.C_drew ?_))); (case side2 => exact HC188_3.out); rintro e w41 ⟨rfl, hb⟩; refine ⟨_, rfl, ?_⟩; refine cut2_ (bb_ BK189.out hb) (below_step (bl1_ HB.out GE189.out) hb) ?_; clear BK189 HB; intro BK189 HB; (try clear hb); (try clear hb2); (try clear hk); (try clear hi)))
            go_ret
            exact ⟨er_, bl1_ HB.out GE189.out⟩
       ·
        replace c8 := Bool.eq_false_iff.mpr c8
        subst c8
        have H1 : (if (((rd_T41 l0 x9_1).f3).length : Int) > 0 then (some false) else (parser_formed.l1 k1 l0 (l0.length : Int) x9_1 ((rd_T41 l0 x9_1).f1) (((rd_T41 l0 x9_1).f1).length : Int) 0 ((rd_T41 l0 x9_1).f0) ((rd_T41 l0 x9_1).f1) false ((rd_T41 l0 x9_1).f3) ((rd_T41 l0 x9_1).f4))) = some r := by rw [if_neg (show ¬ (false = true) by decide)] at H; exact H
        clear H
        have H := H1
        clear H1
        by_cases c42 : (((rd_T41 l0 x9_1).f3).length : Int) > 0
        ·
         rw [if_pos c42] at H
         have c42b0 := decide_eq_true c42
         have c42b1 : decide (0 < ((rd_T41 l0 x9_1).f3).length) = true := decide_eq_true (by omega)
         clear c42
         obtain rfl := Option.some.inj H
         have p188 : 0 ≤ (x9_1 : Int) := dt_
         have q188 : x9_1 < (l0.length : Int) := dt_
         obtain ⟨ad188, A188_1, c188_1, A188_3, c188_3, e188, hx188_0, hx188_1, hx188_2, hx188_3, hx188_4, hl188_1, hi188_1, hl188_3, hi188_3⟩ := at_T41 HR0.out x9_1 p188 q188
         (try rw [← Nbq7.out] at hx188_2)
         cases e188
         replace hx188_0 := pw_cell_below HB.out hx188_0
         replace hx188_1 := pw_cell_below HB.out hx188_1
         replace hx188_2 := pw_cell_below HB.out hx188_2
         replace hx188_3 := pw_cell_below HB.out hx188_3
         replace hx188_4 := pw_cell_below HB.out hx188_4
         have HR188_1 := Aside0.mk hi188_1
         have HC188_1 := Aside0.mk hl188_1
         clear hi188_1 hl188_1
         have HR188_3 := Aside0.mk hi188_3
         have HC188_3 := Aside0.mk hl188_3
         clear hi188_3 hl188_3
         replace p188 := eq_true p188
         replace q188 := eq_true q188
         go_wp2_with (first | ((with_reducible refine gate_dst (N := 4) rfl ?_); (try (refine gate_guard (by rfl) ?_; dsimp only)); refine bx_ (N := 4) (cs := #[.string (⟨#[]⟩ : ByteArray), .slice none 0 0, .bool false, .slice none 0 0, .int .i64 0]) (t := 41) ?_; intro gb189 hg w43 hbox hb; refine cut4_ (below_step (bl_ HB.out) hb) (hbox) (bz_ (w := w) hg (bl_ HB.out)) (bz_ (w := w) hg (bl_ HB.out)) ?_; clear HB; intro HB BK189 GW189 GE189; clear hb hbox hg; obtain ⟨hcz44_0, hcz44_1, hcz44_2, hcz44_3, hcz44_4, hfz44_0, hfz44_1, hfz44_2, hfz44_3, hfz44_4⟩ := cq5_ BK189.out) | ((with_reducible refine gate_callee (f := 36) rfl ?_); refine goesL_ (some 16) rfl rfl Tryd.func36 (by kernel_rfl) rfl #[.agg #[.int .i64 1, .string ((rd_T41 l0 x9_1).f0), .int .i64 0, .int .i64 0]] rfl ga_ ?_; (with_reducible refine (lexer_Valid.calls k1 1 ((rd_T41 l0 x9_1).f0) 0 0 true _ A5.out).mono ?_); rintro e w45 ⟨rfl, hb⟩; refine ⟨_, rfl, ?_⟩; refine cut2_ (blk_below (g := gb189) (o := .cells #[.string ((rd_T41 l0 x9_1).f0), .slice A188_1 ((rd_T41 l0 x9_1).f1).length c188_1, .bool false, .slice A188_3 ((rd_T41 l0 x9_1).f3).length c188_3, .int .i64 ((rd_T41 l0 x9_1).f4)] 41 (0, 0)) (put5_ (bk_ BK189.out)) hb) (below_step (bl1_ HB.out GE189.out) hb) ?_; clear BK189 HB; intro BK189 HB; (try clear hb); (try clear hb2); (try clear hk); (try clear hi); obtain ⟨hcz46_0, hcz46_1, hcz46_2, hcz46_3, hcz46_4, hfz46_0, hfz46_1, hfz46_2, hfz46_3, hfz46_4⟩ := cq5_ BK189.out))
         go_ret
         exact ⟨er_, bl1_ HB.out GE189.out⟩
        ·
         rw [if_neg c42] at H
         have c42b0 := decide_eq_false c42
         have c42b1 : decide (0 < ((rd_T41 l0 x9_1).f3).length) = false := decide_eq_false (by omega)
         clear c42
         have H' := Aside0.mk H
         clear H
         have p188 : 0 ≤ (x9_1 : Int) := dt_
         have q188 : x9_1 < (l0.length : Int) := dt_
         obtain ⟨ad188, A188_1, c188_1, A188_3, c188_3, e188, hx188_0, hx188_1, hx188_2, hx188_3, hx188_4, hl188_1, hi188_1, hl188_3, hi188_3⟩ := at_T41 HR0.out x9_1 p188 q188
         (try rw [← Nbq7.out] at hx188_2)
         cases e188
         replace hx188_0 := pw_cell_below HB.out hx188_0
         replace hx188_1 := pw_cell_below HB.out hx188_1
         replace hx188_2 := pw_cell_below HB.out hx188_2
         replace hx188_3 := pw_cell_below HB.out hx188_3
         replace hx188_4 := pw_cell_below HB.out hx188_4
         have HR188_1 := Aside0.mk hi188_1
         have HC188_1 := Aside0.mk hl188_1
         clear hi188_1 hl188_1
         have HR188_3 := Aside0.mk hi188_3
         have HC188_3 := Aside0.mk hl188_3
         clear hi188_3 hl188_3
         replace p188 := eq_true p188
         replace q188 := eq_true q188
         go_wp2_with (first | ((with_reducible refine gate_dst (N := 4) rfl ?_); (try (refine gate_guard (by rfl) ?_; dsimp only)); refine bx_ (N := 4) (cs := #[.string (⟨#[]⟩ : ByteArray), .slice none 0 0, .bool false, .slice none 0 0, .int .i64 0]) (t := 41) ?_; intro gb189 hg w47 hbox hb; refine cut4_ (below_step (bl_ HB.out) hb) (hbox) (bz_ (w := w) hg (bl_ HB.out)) (bz_ (w := w) hg (bl_ HB.out)) ?_; clear HB; intro HB BK189 GW189 GE189; clear hb hbox hg; obtain ⟨hcz48_0, hcz48_1, hcz48_2, hcz48_3, hcz48_4, hfz48_0, hfz48_1, hfz48_2, hfz48_3, hfz48_4⟩ := cq5_ BK189.out) | ((with_reducible refine gate_callee (f := 36) rfl ?_); refine goesL_ (some 16) rfl rfl Tryd.func36 (by kernel_rfl) rfl #[.agg #[.int .i64 1, .string ((rd_T41 l0 x9_1).f0), .int .i64 0, .int .i64 0]] rfl ga_ ?_; (with_reducible refine (lexer_Valid.calls k1 1 ((rd_T41 l0 x9_1).f0) 0 0 true _ A5.out).mono ?_); rintro e w49 ⟨rfl, hb⟩; refine ⟨_, rfl, ?_⟩; refine cut2_ (blk_below (g := gb189) (o := .cells #[.string ((rd_T41 l0 x9_1).f0), .slice A188_1 ((rd_T41 l0 x9_1).f1).length c188_1, .bool false, .slice A188_3 ((rd_T41 l0 x9_1).f3).length c188_3, .int .i64 ((rd_T41 l0 x9_1).f4)] 41 (0, 0)) (put5_ (bk_ BK189.out)) hb) (below_step (bl1_ HB.out GE189.out) hb) ?_; clear BK189 HB; intro BK189 HB; (try clear hb); (try clear hb2); (try clear hk); (try clear hi); obtain ⟨hcz50_0, hcz50_1, hcz50_2, hcz50_3, hcz50_4, hfz50_0, hfz50_1, hfz50_2, hfz50_3, hfz50_4⟩ := cq5_ BK189.out))
         go_loopg [32] k1 (fun kq v32 w' => ∃ (x32_2 : Int), v32 = .int .i64 x32_2 ∧ Aside0 (parser_formed.l1 kq l0 (l0.length : Int) x9_1 ((rd_T41 l0 x9_1).f1) (((rd_T41 l0 x9_1).f1).length : Int) x32_2 ((rd_T41 l0 x9_1).f0) ((rd_T41 l0 x9_1).f1) false ((rd_T41 l0 x9_1).f3) ((rd_T41 l0 x9_1).f4) = some r) ∧ Aside0 (kq ≤ k1) ∧ Aside0 (w'.heap[gb189]? = some (.cells #[.string ((rd_T41 l0 x9_1).f0), (.slice A188_1 ((rd_T41 l0 x9_1).f1).length c188_1), .bool false, (.slice A188_3 ((rd_T41 l0 x9_1).f3).length c188_3), .int .i64 ((rd_T41 l0 x9_1).f4)] 41 (0, 0))) ∧ Aside0 (Below w.heap.size w w'))
         case atStart => exact ⟨(0), sr_, H', ⟨Nat.le_refl _⟩, ⟨by exact bk_ BK189.out⟩, ⟨bl1_ HB.out GE189.out⟩⟩
         case round =>
          clear H'
          try clear c1
          try clear p1
          try clear q1
          try clear hx1
          try clear c2
          try clear c2b0
          try clear p2
          try clear c3
          try clear c3b0
          try clear c4
          try clear c4b0
          try clear c5
          try clear c6
          try clear p6
          try clear q7
          try clear c8
          try clear c13
          try clear c13b0
          try clear c14
          try clear c14b0
          try clear c15
          try clear c15b0
          try clear c17
          try clear c18
          try clear p18
          try clear q18
          try clear hx18
          try clear c19
          try clear p19
          try clear q19
          try clear hx19
          try clear c21
          try clear c27
          try clear c33
          try clear c36
          try clear c37
          try clear c42
          try clear c42b0
          try clear c42b1
          try clear hcz10_0
          try clear hcz10_1
          try clear hcz10_2
          try clear hcz10_3
          try clear hcz10_4
          try clear hcz12_0
          try clear hcz12_1
          try clear hcz12_2
          try clear hcz12_3
          try clear hcz12_4
          try clear hcz22_0
          try clear hcz22_1
          try clear hcz22_2
          try clear hcz22_3
          try clear hcz24_0
          try clear hcz24_1
          try clear hcz24_2
          try clear hcz24_3
          try clear hcz28_0
          try clear hcz28_1
          try clear hcz28_2
          try clear hcz28_3
          try clear hcz30_0
          try clear hcz30_1
          try clear hcz30_2
          try clear hcz30_3
          try clear hcz34_0
          try clear hcz34_1
          try clear hcz34_2
          try clear hcz34_3
          try clear hcz38_0
          try clear hcz38_1
          try clear hcz38_2
          try clear hcz38_3
          try clear hcz38_4
          try clear hcz40_0
          try clear hcz40_1
          try clear hcz40_2
          try clear hcz40_3
          try clear hcz40_4
          try clear hcz44_0
          try clear hcz44_1
          try clear hcz44_2
          try clear hcz44_3
          try clear hcz44_4
          try clear hcz46_0
          try clear hcz46_1
          try clear hcz46_2
          try clear hcz46_3
          try clear hcz46_4
          try clear hcz48_0
          try clear hcz48_1
          try clear hcz48_2
          try clear hcz48_3
          try clear hcz48_4
          try clear hcz50_0
          try clear hcz50_1
          try clear hcz50_2
          try clear hcz50_3
          try clear hcz50_4
          try clear hfz10_0
          try clear hfz10_1
          try clear hfz10_2
          try clear hfz10_3
          try clear hfz10_4
          try clear hfz12_0
          try clear hfz12_1
          try clear hfz12_2
          try clear hfz12_3
          try clear hfz12_4
          try clear hfz22_0
          try clear hfz22_1
          try clear hfz22_2
          try clear hfz22_3
          try clear hfz24_0
          try clear hfz24_1
          try clear hfz24_2
          try clear hfz24_3
          try clear hfz28_0
          try clear hfz28_1
          try clear hfz28_2
          try clear hfz28_3
          try clear hfz30_0
          try clear hfz30_1
          try clear hfz30_2
          try clear hfz30_3
          try clear hfz34_0
          try clear hfz34_1
          try clear hfz34_2
          try clear hfz34_3
          try clear hfz38_0
          try clear hfz38_1
          try clear hfz38_2
          try clear hfz38_3
          try clear hfz38_4
          try clear hfz40_0
          try clear hfz40_1
          try clear hfz40_2
          try clear hfz40_3
          try clear hfz40_4
          try clear hfz44_0
          try clear hfz44_1
          try clear hfz44_2
          try clear hfz44_3
          try clear hfz44_4
          try clear hfz46_0
          try clear hfz46_1
          try clear hfz46_2
          try clear hfz46_3
          try clear hfz46_4
          try clear hfz48_0
          try clear hfz48_1
          try clear hfz48_2
          try clear hfz48_3
          try clear hfz48_4
          try clear hfz50_0
          try clear hfz50_1
          try clear hfz50_2
          try clear hfz50_3
          try clear hfz50_4
          try clear hx188_0
          try clear hx188_1
          try clear hx188_2
          try clear hx188_3
          try clear hx188_4
          try clear hx191_0
          try clear hx191_1
          try clear hx191_2
          try clear hx191_3
          try clear p1
          try clear p188
          try clear p191
          try clear p2
          try clear q1
          try clear q188
          try clear q191
          try clear q7
          obtain ⟨x32_2, rfl, HA, HK2, BK189, HB⟩ := hrel
          cases gk with
          | zero => exact absurd HA.out (by simp [parser_formed.l1])
          | succ k2 =>
           have H := HA.out
           clear HA
           simp only [parser_formed.l1] at H
           by_cases c51 : x32_2 < (((rd_T41 l0 x9_1).f1).length : Int)
           ·
            rw [if_pos c51] at H
            have c51b0 := decide_eq_true c51
            clear c51
            by_cases c52 : 0 ≤ x32_2
            ·
             rw [if_pos c52] at H
             have c52b0 := decide_eq_true c52
             clear c52
             by_cases c53 : x32_2 < (((rd_T41 l0 x9_1).f1).length : Int)
             ·
              rw [if_pos c53] at H
              have c53b0 := decide_eq_true c53
              clear c53
              replace H := Option.bind_eq_some_iff.mp H
              obtain ⟨t193, A540, H⟩ := H
              (try dsimp only at H)
              have A54 := Aside0.mk A540
              clear A540
              by_cases c55 : t193 = true
              ·
               subst c55
               have H1 : ((lexer_Valid.f k2 ((rd_T46 ((rd_T41 l0 x9_1).f1) x32_2).f0) ((rd_T46 ((rd_T41 l0 x9_1).f1) x32_2).f1) ((rd_T46 ((rd_T41 l0 x9_1).f1) x32_2).f2) ((rd_T46 ((rd_T41 l0 x9_1).f1) x32_2).f3)).bind fun t194 => (if t194 = true then (parser_formed.l1 k2 l0 (l0.length : Int) x9_1 ((rd_T41 l0 x9_1).f1) (((rd_T41 l0 x9_1).f1).length : Int) (wrap64 (x32_2 + 1)) ((rd_T41 l0 x9_1).f0) ((rd_T41 l0 x9_1).f1) false ((rd_T41 l0 x9_1).f3) ((rd_T41 l0 x9_1).f4)) else (some false))) = some r := by rw [if_pos rfl] at H; exact H
               clear H
               have H := H1
               clear H1
               replace H := Option.bind_eq_some_iff.mp H
               obtain ⟨t194, A560, H⟩ := H
               (try dsimp only at H)
               have A56 := Aside0.mk A560
               clear A560
               by_cases c57 : t194 = true
               ·
                subst c57
                have H1 : (parser_formed.l1 k2 l0 (l0.length : Int) x9_1 ((rd_T41 l0 x9_1).f1) (((rd_T41 l0 x9_1).f1).length : Int) (wrap64 (x32_2 + 1)) ((rd_T41 l0 x9_1).f0) ((rd_T41 l0 x9_1).f1) false ((rd_T41 l0 x9_1).f3) ((rd_T41 l0 x9_1).f4)) = some r := by rw [if_pos rfl] at H; exact H
                clear H
                have H := H1
                clear H1
                have H' := Aside0.mk H
                clear H
                have p191 : 0 ≤ (x32_2 : Int) := dt_
                have q191 : x32_2 < (((rd_T41 l0 x9_1).f1).length : Int) := dt_
                obtain ⟨ad191, e191, hx191_0, hx191_1, hx191_2, hx191_3⟩ := at_T46 HR188_1.out x32_2 p191 q191
                cases e191
                replace hx191_0 := pw_cell_below HB.out hx191_0
                replace hx191_1 := pw_cell_below HB.out hx191_1
                replace hx191_2 := pw_cell_below HB.out hx191_2
                replace hx191_3 := pw_cell_below HB.out hx191_3
                replace p191 := eq_true p191
                replace q191 := eq_true q191
                go_wp2_with (first | ((with_reducible refine gate_dst (N := 6) rfl ?_); (try (refine gate_guard (by rfl) ?_; dsimp only)); refine bx_ (N := 6) (cs := #[.int .i64 0, .string (⟨#[]⟩ : ByteArray), .int .i64 0, .int .i64 0]) (t := 46) ?_; intro gb192 hg w58 hbox hb; refine cut7_ (bb_ BK189.out hb) (below_step (bl1_ HB.out GE189.out) hb) (hbox) (bz_ (w := w) hg (bl1_ HB.out GE189.out)) (bz_ (w := w) hg (bl1_ HB.out GE189.out)) (nl_ hg BK189.out) (ng_ hg BK189.out) ?_; clear BK189 HB; intro BK189 HB BK192 GW192 GE192 NB189_192 NB192_189; clear hb hbox hg; have hnb59 := NB192_189.out; have hnc59 := NB189_192.out; obtain ⟨hcz60_0, hcz60_1, hcz60_2, hcz60_3, hfz60_0, hfz60_1, hfz60_2, hfz60_3⟩ := cq4_ BK192.out) | ((with_reducible refine gate_callee (f := 85) rfl ?_); refine goesL_ (some 37) rfl rfl Tryd.func85 (by kernel_rfl) rfl #[.agg #[.int .i64 ((rd_T46 ((rd_T41 l0 x9_1).f1) x32_2).f0), .string ((rd_T46 ((rd_T41 l0 x9_1).f1) x32_2).f1), .int .i64 ((rd_T46 ((rd_T41 l0 x9_1).f1) x32_2).f2), .int .i64 ((rd_T46 ((rd_T41 l0 x9_1).f1) x32_2).f3)]] rfl ga_ ?_; (with_reducible refine (parser_atom.calls ((rd_T46 ((rd_T41 l0 x9_1).f1) x32_2).f0) ((rd_T46 ((rd_T41 l0 x9_1).f1) x32_2).f1) ((rd_T46 ((rd_T41 l0 x9_1).f1) x32_2).f2) ((rd_T46 ((rd_T41 l0 x9_1).f1) x32_2).f3) true _ A54.out).mono ?_); rintro e w61 ⟨rfl, hb⟩; refine ⟨_, rfl, ?_⟩; refine cut3_ (blk_below (g := gb189) (o := .cells #[.string ((rd_T41 l0 x9_1).f0), .slice (some ad191) ((rd_T41 l0 x9_1).f1).length c188_1, .bool false, .slice A188_3 ((rd_T41 l0 x9_1).f3).length c188_3, .int .i64 ((rd_T41 l0 x9_1).f4)] 41 (0, 0)) (far4_ (bk_ BK189.out) NB189_192.out) hb) (blk_below (g := gb192) (o := .cells #[.int .i64 ((rd_T46 ((rd_T41 l0 x9_1).f1) x32_2).f0), .string ((rd_T46 ((rd_T41 l0 x9_1).f1) x32_2).f1), .int .i64 ((rd_T46 ((rd_T41 l0 x9_1).f1) x32_2).f2), .int .i64 ((rd_T46 ((rd_T41 l0 x9_1).f1) x32_2).f3)] 46 (0, 0)) (put4_ (bk_ BK192.out)) hb) (below_step (bl2_ HB.out GE189.out GE192.out) hb) ?_; clear BK189 BK192 HB; intro BK189 BK192 HB; (try clear hb); (try clear hb2); (try clear hk); (try clear hi); obtain ⟨hcz62_0, hcz62_1, hcz62_2, hcz62_3, hfz62_0, hfz62_1, hfz62_2, hfz62_3⟩ := cq4_ BK192.out) | (go_at_call 36; (with_reducible refine (lexer_Valid.calls k2 ((rd_T46 ((rd_T41 l0 x9_1).f1) x32_2).f0) ((rd_T46 ((rd_T41 l0 x9_1).f1) x32_2).f1) ((rd_T46 ((rd_T41 l0 x9_1).f1) x32_2).f2) ((rd_T46 ((rd_T41 l0 x9_1).f1) x32_2).f3) true _ A56.out).mono ?_); rintro e w63 ⟨rfl, hb⟩; refine cut3_ (bb_ BK189.out hb) (bb_ BK192.out hb) (below_step (bl2_ HB.out GE189.out GE192.out) hb) ?_; clear BK189 BK192 HB; intro BK189 BK192 HB; (try clear hb); (try clear hb2); (try clear hk); (try clear hi)))
                go_roundg k2
                case measure => have := HK1.out; have := HK2.out; omega
                case rel => exact ⟨(wrap64 (x32_2 + 1)), sr_, H', ⟨by have := HK1.out; have := HK2.out; omega⟩, ⟨by exact bk_ BK189.out⟩, ⟨bl2_ HB.out GE189.out GE192.out⟩⟩
               ·
                replace c57 := Bool.eq_false_iff.mpr c57
                subst c57
                have H1 : (some false) = some r := by rw [if_neg (show ¬ (false = true) by decide)] at H; exact H
                clear H
                have H := H1
                clear H1
                obtain rfl := Option.some.inj H
                have p191 : 0 ≤ (x32_2 : Int) := dt_
                have q191 : x32_2 < (((rd_T41 l0 x9_1).f1).length : Int) := dt_
                obtain ⟨ad191, e191, hx191_0, hx191_1, hx191_2, hx191_3⟩ := at_T46 HR188_1.out x32_2 p191 q191
                cases e191
                replace hx191_0 := pw_cell_below HB.out hx191_0
                replace hx191_1 := pw_cell_below HB.out hx191_1
                replace hx191_2 := pw_cell_below HB.out hx191_2
                replace hx191_3 := pw_cell_below HB.out hx191_3
                replace p191 := eq_true p191
                replace q191 := eq_true q191
                go_wp2_with (first | ((with_reducible refine gate_dst (N := 6) rfl ?_); (try (refine gate_guard (by rfl) ?_; dsimp only)); refine bx_ (N := 6) (cs := #[.int .i64 0, .string (⟨#[]⟩ : ByteArray), .int .i64 0, .int .i64 0]) (t := 46) ?_; intro gb192 hg w64 hbox hb; refine cut7_ (bb_ BK189.out hb) (below_step (bl1_ HB.out GE189.out) hb) (hbox) (bz_ (w := w) hg (bl1_ HB.out GE189.out)) (bz_ (w := w) hg (bl1_ HB.out GE189.out)) (nl_ hg BK189.out) (ng_ hg BK189.out) ?_; clear BK189 HB; intro BK189 HB BK192 GW192 GE192 NB189_192 NB192_189; clear hb hbox hg; have hnb65 := NB192_189.out; have hnc65 := NB189_192.out; obtain ⟨hcz66_0, hcz66_1, hcz66_2, hcz66_3, hfz66_0, hfz66_1, hfz66_2, hfz66_3⟩ := cq4_ BK192.out) | ((with_reducible refine gate_callee (f := 85) rfl ?_); refine goesL_ (some 37) rfl rfl Tryd.func85 (by kernel_rfl) rfl #[.agg #[.int .i64 ((rd_T46 ((rd_T41 l0 x9_1).f1) x32_2).f0), .string ((rd_T46 ((rd_T41 l0 x9_1).f1) x32_2).f1), .int .i64 ((rd_T46 ((rd_T41 l0 x9_1).f1) x32_2).f2), .int .i64 ((rd_T46 ((rd_T41 l0 x9_1).f1) x32_2).f3)]] rfl ga_ ?_; (with_reducible refine (parser_atom.calls ((rd_T46 ((rd_T41 l0 x9_1).f1) x32_2).f0) ((rd_T46 ((rd_T41 l0 x9_1).f1) x32_2).f1) ((rd_T46 ((rd_T41 l0 x9_1).f1) x32_2).f2) ((rd_T46 ((rd_T41 l0 x9_1).f1) x32_2).f3) true _ A54.out).mono ?_); rintro e w67 ⟨rfl, hb⟩; refine ⟨_, rfl, ?_⟩; refine cut3_ (blk_below (g := gb189) (o := .cells #[.string ((rd_T41 l0 x9_1).f0), .slice (some ad191) ((rd_T41 l0 x9_1).f1).length c188_1, .bool false, .slice A188_3 ((rd_T41 l0 x9_1).f3).length c188_3, .int .i64 ((rd_T41 l0 x9_1).f4)] 41 (0, 0)) (far4_ (bk_ BK189.out) NB189_192.out) hb) (blk_below (g := gb192) (o := .cells #[.int .i64 ((rd_T46 ((rd_T41 l0 x9_1).f1) x32_2).f0), .string ((rd_T46 ((rd_T41 l0 x9_1).f1) x32_2).f1), .int .i64 ((rd_T46 ((rd_T41 l0 x9_1).f1) x32_2).f2), .int .i64 ((rd_T46 ((rd_T41 l0 x9_1).f1) x32_2).f3)] 46 (0, 0)) (put4_ (bk_ BK192.out)) hb) (below_step (bl2_ HB.out GE189.out GE192.out) hb) ?_; clear BK189 BK192 HB; intro BK189 BK192 HB; (try clear hb); (try clear hb2); (try clear hk); (try clear hi); obtain ⟨hcz68_0, hcz68_1, hcz68_2, hcz68_3, hfz68_0, hfz68_1, hfz68_2, hfz68_3⟩ := cq4_ BK192.out) | (go_at_call 36; (with_reducible refine (lexer_Valid.calls k2 ((rd_T46 ((rd_T41 l0 x9_1).f1) x32_2).f0) ((rd_T46 ((rd_T41 l0 x9_1).f1) x32_2).f1) ((rd_T46 ((rd_T41 l0 x9_1).f1) x32_2).f2) ((rd_T46 ((rd_T41 l0 x9_1).f1) x32_2).f3) false _ A56.out).mono ?_); rintro e w69 ⟨rfl, hb⟩; refine cut3_ (bb_ BK189.out hb) (bb_ BK192.out hb) (below_step (bl2_ HB.out GE189.out GE192.out) hb) ?_; clear BK189 BK192 HB; intro BK189 BK192 HB; (try clear hb); (try clear hb2); (try clear hk); (try clear hi)))
                go_ret
                exact ⟨er_, bl2_ HB.out GE189.out GE192.out⟩
              ·
               replace c55 := Bool.eq_false_iff.mpr c55
               subst c55
               have H1 : (some false) = some r := by rw [if_neg (show ¬ (false = true) by decide)] at H; exact H
               clear H
               have H := H1
               clear H1
               obtain rfl := Option.some.inj H
               have p191 : 0 ≤ (x32_2 : Int) := dt_
               have q191 : x32_2 < (((rd_T41 l0 x9_1).f1).length : Int) := dt_
               obtain ⟨ad191, e191, hx191_0, hx191_1, hx191_2, hx191_3⟩ := at_T46 HR188_1.out x32_2 p191 q191
               cases e191
               replace hx191_0 := pw_cell_below HB.out hx191_0
               replace hx191_1 := pw_cell_below HB.out hx191_1
               replace hx191_2 := pw_cell_below HB.out hx191_2
               replace hx191_3 := pw_cell_below HB.out hx191_3
               replace p191 := eq_true p191
               replace q191 := eq_true q191
               go_wp2_with (first | ((with_reducible refine gate_dst (N := 6) rfl ?_); (try (refine gate_guard (by rfl) ?_; dsimp only)); refine bx_ (N := 6) (cs := #[.int .i64 0, .string (⟨#[]⟩ : ByteArray), .int .i64 0, .int .i64 0]) (t := 46) ?_; intro gb192 hg w70 hbox hb; refine cut7_ (bb_ BK189.out hb) (below_step (bl1_ HB.out GE189.out) hb) (hbox) (bz_ (w := w) hg (bl1_ HB.out GE189.out)) (bz_ (w := w) hg (bl1_ HB.out GE189.out)) (nl_ hg BK189.out) (ng_ hg BK189.out) ?_; clear BK189 HB; intro BK189 HB BK192 GW192 GE192 NB189_192 NB192_189; clear hb hbox hg; have hnb71 := NB192_189.out; have hnc71 := NB189_192.out; obtain ⟨hcz72_0, hcz72_1, hcz72_2, hcz72_3, hfz72_0, hfz72_1, hfz72_2, hfz72_3⟩ := cq4_ BK192.out) | ((with_reducible refine gate_callee (f := 85) rfl ?_); refine goesL_ (some 37) rfl rfl Tryd.func85 (by kernel_rfl) rfl #[.agg #[.int .i64 ((rd_T46 ((rd_T41 l0 x9_1).f1) x32_2).f0), .string ((rd_T46 ((rd_T41 l0 x9_1).f1) x32_2).f1), .int .i64 ((rd_T46 ((rd_T41 l0 x9_1).f1) x32_2).f2), .int .i64 ((rd_T46 ((rd_T41 l0 x9_1).f1) x32_2).f3)]] rfl ga_ ?_; (with_reducible refine (parser_atom.calls ((rd_T46 ((rd_T41 l0 x9_1).f1) x32_2).f0) ((rd_T46 ((rd_T41 l0 x9_1).f1) x32_2).f1) ((rd_T46 ((rd_T41 l0 x9_1).f1) x32_2).f2) ((rd_T46 ((rd_T41 l0 x9_1).f1) x32_2).f3) false _ A54.out).mono ?_); rintro e w73 ⟨rfl, hb⟩; refine ⟨_, rfl, ?_⟩; refine cut3_ (blk_below (g := gb189) (o := .cells #[.string ((rd_T41 l0 x9_1).f0), .slice (some ad191) ((rd_T41 l0 x9_1).f1).length c188_1, .bool false, .slice A188_3 ((rd_T41 l0 x9_1).f3).length c188_3, .int .i64 ((rd_T41 l0 x9_1).f4)] 41 (0, 0)) (far4_ (bk_ BK189.out) NB189_192.out) hb) (blk_below (g := gb192) (o := .cells #[.int .i64 ((rd_T46 ((rd_T41 l0 x9_1).f1) x32_2).f0), .string ((rd_T46 ((rd_T41 l0 x9_1).f1) x32_2).f1), .int .i64 ((rd_T46 ((rd_T41 l0 x9_1).f1) x32_2).f2), .int .i64 ((rd_T46 ((rd_T41 l0 x9_1).f1) x32_2).f3)] 46 (0, 0)) (put4_ (bk_ BK192.out)) hb) (below_step (bl2_ HB.out GE189.out GE192.out) hb) ?_; clear BK189 BK192 HB; intro BK189 BK192 HB; (try clear hb); (try clear hb2); (try clear hk); (try clear hi)))
               go_ret
               exact ⟨er_, bl2_ HB.out GE189.out GE192.out⟩
             ·
              rw [if_neg c53] at H
              exact absurd H (by simp)
            ·
             rw [if_neg c52] at H
             exact absurd H (by simp)
           ·
            rw [if_neg c51] at H
            have c51b0 := decide_eq_false c51
            clear c51
            replace H := Option.bind_eq_some_iff.mp H
            obtain ⟨t195, A740, H⟩ := H
            (try dsimp only at H)
            have A74 := Aside0.mk A740
            clear A740
            by_cases c75 : t195 = true
            ·
             subst c75
             have H1 : (parser_formed.l0 k2 l0 (l0.length : Int) (wrap64 (x9_1 + 1))) = some r := by rw [if_pos rfl] at H; exact H
             clear H
             have H := H1
             clear H1
             have H' := Aside0.mk H
             clear H
             have hcz76_0 := cz_ (.string ((rd_T41 l0 x9_1).f0)) BK189.out 0
             have hcz76_1 := cz_ (.slice A188_1 ((rd_T41 l0 x9_1).f1).length c188_1) BK189.out 1
             have hcz76_2 := cz_ (.bool false) BK189.out 2
             have hcz76_3 := cz_ (.slice A188_3 ((rd_T41 l0 x9_1).f3).length c188_3) BK189.out 3
             have hcz76_4 := cz_ (.int .i64 ((rd_T41 l0 x9_1).f4)) BK189.out 4
             have hfz76_0 := blk_frozen BK189.out 0
             have hfz76_1 := blk_frozen BK189.out 1
             have hfz76_2 := blk_frozen BK189.out 2
             have hfz76_3 := blk_frozen BK189.out 3
             have hfz76_4 := blk_frozen BK189.out 4
             go_wp2_with (first | ((with_reducible refine gate_callee (f := 56) rfl ?_); refine goesL_ (some 47) rfl rfl Tryd.func56 (by kernel_rfl) rfl #[.slice A188_3 ((rd_T41 l0 x9_1).f3).length c188_3] rfl ga_ ?_; (with_reducible refine (ih k2 (by have := HK1.out; have := HK2.out; omega) _ _ ((rd_T41 l0 x9_1).f3) true _ ?side1 ?side2 A74.out).mono ?_); (case side1 => repeat (first | exact (Kd.C_below HR188_3.out HB.out) | (with_reducible refine Kd.C_alloc ?_ _) | (with_reducible refine Kd.C_drewN ?_ _) | (with_reducible refine Kd.C_drew ?_))); (case side2 => exact HC188_3.out); rintro e w77 ⟨rfl, hb⟩; refine ⟨_, rfl, ?_⟩; refine cut2_ (bb_ BK189.out hb) (below_step (bl1_ HB.out GE189.out) hb) ?_; clear BK189 HB; intro BK189 HB; (try clear hb); (try clear hb2); (try clear hk); (try clear hi)))
             go_roundg k2
             case measure => have := HK1.out; have := HK2.out; omega
             case rel => exact ⟨(wrap64 (x9_1 + 1)), sr_, H', ⟨by have := HK1.out; have := HK2.out; omega⟩, ⟨bl1_ HB.out GE189.out⟩⟩
            ·
             replace c75 := Bool.eq_false_iff.mpr c75
             subst c75
             have H1 : (some false) = some r := by rw [if_neg (show ¬ (false = true) by decide)] at H; exact H
             clear H
             have H := H1
             clear H1
             obtain rfl := Option.some.inj H
             have hcz78_0 := cz_ (.string ((rd_T41 l0 x9_1).f0)) BK189.out 0
             have hcz78_1 := cz_ (.slice A188_1 ((rd_T41 l0 x9_1).f1).length c188_1) BK189.out 1
             have hcz78_2 := cz_ (.bool false) BK189.out 2
             have hcz78_3 := cz_ (.slice A188_3 ((rd_T41 l0 x9_1).f3).length c188_3) BK189.out 3
             have hcz78_4 := cz_ (.int .i64 ((rd_T41 l0 x9_1).f4)) BK189.out 4
             have hfz78_0 := blk_frozen BK189.out 0
             have hfz78_1 := blk_frozen BK189.out 1
             have hfz78_2 := blk_frozen BK189.out 2
             have hfz78_3 := blk_frozen BK189.out 3
             have hfz78_4 := blk_frozen BK189.out 4
             go_wp2_with (first | ((with_reducible refine gate_callee (f := 56) rfl ?_); refine goesL_ (some 47) rfl rfl Tryd.func56 (by kernel_rfl) rfl #[.slice A188_3 ((rd_T41 l0 x9_1).f3).length c188_3] rfl ga_ ?_; (with_reducible refine (ih k2 (by have := HK1.out; have := HK2.out; omega) _ _ ((rd_T41 l0 x9_1).f3) false _ ?side1 ?side2 A74.out).mono ?_); (case side1 => repeat (first | exact (Kd.C_below HR188_3.out HB.out) | (with_reducible refine Kd.C_alloc ?_ _) | (with_reducible refine Kd.C_drewN ?_ _) | (with_reducible refine Kd.C_drew ?_))); (case side2 => exact HC188_3.out); rintro e w79 ⟨rfl, hb⟩; refine ⟨_, rfl, ?_⟩; refine cut2_ (bb_ BK189.out hb) (below_step (bl1_ HB.out GE189.out) hb) ?_; clear BK189 HB; intro BK189 HB; (try clear hb); (try clear hb2); (try clear hk); (try clear hi)))
             go_ret
             exact ⟨er_, bl1_ HB.out GE189.out⟩
      ·
       replace c6 := Bool.eq_false_iff.mpr c6
       subst c6
       have H1 : (some false) = some r := by rw [if_neg (show ¬ (false = true) by decide)] at H; exact H
       clear H
       have H := H1
       clear H1
       obtain rfl := Option.some.inj H
       have p188 : 0 ≤ (x9_1 : Int) := dt_
       have q188 : x9_1 < (l0.length : Int) := dt_
       obtain ⟨ad188, A188_1, c188_1, A188_3, c188_3, e188, hx188_0, hx188_1, hx188_2, hx188_3, hx188_4, hl188_1, hi188_1, hl188_3, hi188_3⟩ := at_T41 HR0.out x9_1 p188 q188
       cases e188
       replace hx188_0 := pw_cell_below HB.out hx188_0
       replace hx188_1 := pw_cell_below HB.out hx188_1
       replace hx188_2 := pw_cell_below HB.out hx188_2
       replace hx188_3 := pw_cell_below HB.out hx188_3
       replace hx188_4 := pw_cell_below HB.out hx188_4
       have HR188_1 := Aside0.mk hi188_1
       have HC188_1 := Aside0.mk hl188_1
       clear hi188_1 hl188_1
       have HR188_3 := Aside0.mk hi188_3
       have HC188_3 := Aside0.mk hl188_3
       clear hi188_3 hl188_3
       replace p188 := eq_true p188
       replace q188 := eq_true q188
       go_wp2_with (first | ((with_reducible refine gate_dst (N := 4) rfl ?_); (try (refine gate_guard (by rfl) ?_; dsimp only)); refine bx_ (N := 4) (cs := #[.string (⟨#[]⟩ : ByteArray), .slice none 0 0, .bool false, .slice none 0 0, .int .i64 0]) (t := 41) ?_; intro gb189 hg w80 hbox hb; refine cut4_ (below_step (bl_ HB.out) hb) (hbox) (bz_ (w := w) hg (bl_ HB.out)) (bz_ (w := w) hg (bl_ HB.out)) ?_; clear HB; intro HB BK189 GW189 GE189; clear hb hbox hg; obtain ⟨hcz81_0, hcz81_1, hcz81_2, hcz81_3, hcz81_4, hfz81_0, hfz81_1, hfz81_2, hfz81_3, hfz81_4⟩ := cq5_ BK189.out) | ((with_reducible refine gate_callee (f := 36) rfl ?_); refine goesL_ (some 16) rfl rfl Tryd.func36 (by kernel_rfl) rfl #[.agg #[.int .i64 1, .string ((rd_T41 l0 x9_1).f0), .int .i64 0, .int .i64 0]] rfl ga_ ?_; (with_reducible refine (lexer_Valid.calls k1 1 ((rd_T41 l0 x9_1).f0) 0 0 false _ A5.out).mono ?_); rintro e w82 ⟨rfl, hb⟩; refine ⟨_, rfl, ?_⟩; refine cut2_ (blk_below (g := gb189) (o := .cells #[.string ((rd_T41 l0 x9_1).f0), .slice A188_1 ((rd_T41 l0 x9_1).f1).length c188_1, .bool ((rd_T41 l0 x9_1).f2), .slice A188_3 ((rd_T41 l0 x9_1).f3).length c188_3, .int .i64 ((rd_T41 l0 x9_1).f4)] 41 (0, 0)) (put5_ (bk_ BK189.out)) hb) (below_step (bl1_ HB.out GE189.out) hb) ?_; clear BK189 HB; intro BK189 HB; (try clear hb); (try clear hb2); (try clear hk); (try clear hi)))
       go_ret
       exact ⟨er_, bl1_ HB.out GE189.out⟩
     ·
      rw [if_neg c4] at H
      exact absurd H (by simp)
    ·
     rw [if_neg c3] at H
     exact absurd H (by simp)
   ·
    rw [if_neg c2] at H
    have c2b0 := decide_eq_false c2
    clear c2
    obtain rfl := Option.some.inj H
    go_wp2
    go_ret
    exact ⟨er_, bl_ HB.out⟩
def parser_Check.f (k : Nat) (l0 : List (S41)) : Option (Int) := (parser_formed.f k l0).bind fun t196 => (if t196 = true then ((parser_Depth.f k l0).bind fun t197 => (if t197 > 8 then (some 6) else (some 0))) else (some 2))
theorem parser_Check.mono : ∀ a0 k, LeO (parser_Check.f k a0) (parser_Check.f (k + 1) a0) := by
 intro a0 k
 unfold parser_Check.f
 repeat' first
   | (with_reducible exact LeO.refl _)
   | exact parser_Depth.mono _ _
   | exact parser_formed.mono _ _
   | exact LeO.none _
   | refine LeO.ite ?_ ?_
   | refine LeO.bind ?_ (fun _ => ?_)
set_option maxHeartbeats 8000000 in
set_option maxRecDepth 100000 in
theorem parser_Check.calls (k : Nat) (A0 : Option Addr) (c0 : Nat) (l0 : List (S41)) (r : Int) (w : World) (hr0 : Kd.C k41 w A0 l0.length l0) (hc0 : l0.length ≤ c0) (h : parser_Check.f k l0 = some r) :
  Calls Tryd.prog 26 #[.slice A0 l0.length c0] w fun e w' => e = .returned (.int .i64 r) ∧ Below w.heap.size w w' := by
 have HR0 := Aside0.mk hr0
 have HC0 := Aside0.mk hc0
 clear hr0 hc0
 have HB := Aside0.mk (Below.refl w.heap.size w)
 have H : ((parser_formed.f k l0).bind fun t196 => (if t196 = true then ((parser_Depth.f k l0).bind fun t197 => (if t197 > 8 then (some 6) else (some 0))) else (some 2))) = some r := h
 clear h
 replace H := Option.bind_eq_some_iff.mp H
 obtain ⟨t196, A20, H⟩ := H
 (try dsimp only at H)
 have A2 := Aside0.mk A20
 clear A20
 by_cases c3 : t196 = true
 ·
  subst c3
  have H1 : ((parser_Depth.f k l0).bind fun t197 => (if t197 > 8 then (some 6) else (some 0))) = some r := by rw [if_pos rfl] at H; exact H
  clear H
  have H := H1
  clear H1
  replace H := Option.bind_eq_some_iff.mp H
  obtain ⟨t197, A40, H⟩ := H
  (try dsimp only at H)
  have A4 := Aside0.mk A40
  clear A40
  by_cases c5 : t197 > 8
  ·
   rw [if_pos c5] at H
   have c5b0 := decide_eq_true c5
   clear c5
   obtain rfl := Option.some.inj H
   go_enter Tryd.func26, Tryd.ntmps26
   go_wp2_with (first | ((with_reducible refine gate_callee (f := 56) rfl ?_); refine goesL_ (some 5) rfl rfl Tryd.func56 (by kernel_rfl) rfl #[.slice A0 l0.length c0] rfl ga_ ?_; (with_reducible refine (parser_formed.calls k _ _ l0 true _ ?side1 ?side2 A2.out).mono ?_); (case side1 => repeat (first | exact HR0.out | (with_reducible refine Kd.C_alloc ?_ _) | (with_reducible refine Kd.C_drewN ?_ _) | (with_reducible refine Kd.C_drew ?_))); (case side2 => exact HC0.out); rintro e w6 ⟨rfl, hb⟩; refine ⟨_, rfl, ?_⟩; refine cut1_ (below_step (bl_ HB.out) hb) ?_; clear HB; intro HB; (try clear hb); (try clear hb2); (try clear hk); (try clear hi)) | ((with_reducible refine gate_callee (f := 31) rfl ?_); refine goesL_ (some 9) rfl rfl Tryd.func31 (by kernel_rfl) rfl #[.slice A0 l0.length c0] rfl ga_ ?_; (with_reducible refine (parser_Depth.calls k _ _ l0 t197 _ ?side1 ?side2 A4.out).mono ?_); (case side1 => repeat (first | exact (Kd.C_below HR0.out HB.out) | (with_reducible refine Kd.C_alloc ?_ _) | (with_reducible refine Kd.C_drewN ?_ _) | (with_reducible refine Kd.C_drew ?_))); (case side2 => exact HC0.out); rintro e w7 ⟨rfl, hb⟩; refine ⟨_, rfl, ?_⟩; refine cut1_ (below_step (bl_ HB.out) hb) ?_; clear HB; intro HB; (try clear hb); (try clear hb2); (try clear hk); (try clear hi)))
   go_ret
   exact ⟨er_, bl_ HB.out⟩
  ·
   rw [if_neg c5] at H
   have c5b0 := decide_eq_false c5
   clear c5
   obtain rfl := Option.some.inj H
   go_enter Tryd.func26, Tryd.ntmps26
   go_wp2_with (first | ((with_reducible refine gate_callee (f := 56) rfl ?_); refine goesL_ (some 5) rfl rfl Tryd.func56 (by kernel_rfl) rfl #[.slice A0 l0.length c0] rfl ga_ ?_; (with_reducible refine (parser_formed.calls k _ _ l0 true _ ?side1 ?side2 A2.out).mono ?_); (case side1 => repeat (first | exact HR0.out | (with_reducible refine Kd.C_alloc ?_ _) | (with_reducible refine Kd.C_drewN ?_ _) | (with_reducible refine Kd.C_drew ?_))); (case side2 => exact HC0.out); rintro e w8 ⟨rfl, hb⟩; refine ⟨_, rfl, ?_⟩; refine cut1_ (below_step (bl_ HB.out) hb) ?_; clear HB; intro HB; (try clear hb); (try clear hb2); (try clear hk); (try clear hi)) | ((with_reducible refine gate_callee (f := 31) rfl ?_); refine goesL_ (some 9) rfl rfl Tryd.func31 (by kernel_rfl) rfl #[.slice A0 l0.length c0] rfl ga_ ?_; (with_reducible refine (parser_Depth.calls k _ _ l0 t197 _ ?side1 ?side2 A4.out).mono ?_); (case side1 => repeat (first | exact (Kd.C_below HR0.out HB.out) | (with_reducible refine Kd.C_alloc ?_ _) | (with_reducible refine Kd.C_drewN ?_ _) | (with_reducible refine Kd.C_drew ?_))); (case side2 => exact HC0.out); rintro e w9 ⟨rfl, hb⟩; refine ⟨_, rfl, ?_⟩; refine cut1_ (below_step (bl_ HB.out) hb) ?_; clear HB; intro HB; (try clear hb); (try clear hb2); (try clear hk); (try clear hi)))
   go_ret
   exact ⟨er_, bl_ HB.out⟩
 ·
  replace c3 := Bool.eq_false_iff.mpr c3
  subst c3
  have H1 : (some 2) = some r := by rw [if_neg (show ¬ (false = true) by decide)] at H; exact H
  clear H
  have H := H1
  clear H1
  obtain rfl := Option.some.inj H
  go_enter Tryd.func26, Tryd.ntmps26
  go_wp2_with (first | ((with_reducible refine gate_callee (f := 56) rfl ?_); refine goesL_ (some 5) rfl rfl Tryd.func56 (by kernel_rfl) rfl #[.slice A0 l0.length c0] rfl ga_ ?_; (with_reducible refine (parser_formed.calls k _ _ l0 false _ ?side1 ?side2 A2.out).mono ?_); (case side1 => repeat (first | exact HR0.out | (with_reducible refine Kd.C_alloc ?_ _) | (with_reducible refine Kd.C_drewN ?_ _) | (with_reducible refine Kd.C_drew ?_))); (case side2 => exact HC0.out); rintro e w10 ⟨rfl, hb⟩; refine ⟨_, rfl, ?_⟩; refine cut1_ (below_step (bl_ HB.out) hb) ?_; clear HB; intro HB; (try clear hb); (try clear hb2); (try clear hk); (try clear hi)))
  go_ret
  exact ⟨er_, bl_ HB.out⟩
mutual
def salchowlaw10_tokens.l0 : Nat → List (S41) → List (S46) → Int → Option ((List (S46)))
 | 0, _, _, _ => none
 | k + 1, x0, x3, x4 => if x4 < (x0.length : Int) then (if 0 ≤ x4 then (if x3.length < 3518437208883 then ((some (x3 ++ [(⟨1, (rd_T41 x0 x4).f0, 0, 0⟩ : S46)] : List (S46))).bind fun y323 => (if y323.length + ((rd_T41 x0 x4).f1).length < 3518437208883 then ((some (y323 ++ ((rd_T41 x0 x4).f1) : List (S46))).bind fun y327 => (if ((rd_T41 x0 x4).f2 = true) then (if y327.length < 3518437208883 then ((some (y327 ++ [(⟨4, (⟨#[123]⟩ : ByteArray), 0, 0⟩ : S46)] : List (S46))).bind fun y331 => ((salchowlaw10_tokens.f k ((rd_T41 x0 x4).f3)).bind fun t335 => (if y331.length + t335.length < 3518437208883 then ((some (y331 ++ t335 : List (S46))).bind fun y338 => (if y338.length < 3518437208883 then (salchowlaw10_tokens.l0 k x0 (y338 ++ [(⟨4, (⟨#[125]⟩ : ByteArray), 0, 0⟩ : S46)]) (wrap64 (x4 + 1))) else (none))) else (none)))) else (none)) else (if y327.length < 3518437208883 then (salchowlaw10_tokens.l0 k x0 (y327 ++ [(⟨4, (⟨#[59]⟩ : ByteArray), 0, 0⟩ : S46)]) (wrap64 (x4 + 1))) else (none)))) else (none))) else (none)) else (none)) else (some x3)
def salchowlaw10_tokens.f : Nat → List (S41) → Option ((List (S46)))
 | 0, _ => none
 | k + 1, l0 => salchowlaw10_tokens.l0 k l0 ([] : List (S46)) 0
end
theorem salchowlaw10_tokens.mono_l : ∀ k, (∀ y0, LeO (salchowlaw10_tokens.f k y0) (salchowlaw10_tokens.f (k + 1) y0)) ∧ (∀ y0 y1 y2, LeO (salchowlaw10_tokens.l0 k y0 y1 y2) (salchowlaw10_tokens.l0 (k + 1) y0 y1 y2))
 | 0 => ⟨fun _ r h => by simp [salchowlaw10_tokens.f] at h, fun _ _ _ r h => by simp [salchowlaw10_tokens.l0] at h⟩
 | k + 1 => by
  obtain ⟨ih0, ih1⟩ := salchowlaw10_tokens.mono_l k
  refine ⟨?_, ?_⟩
  ·
   intro y0
   unfold salchowlaw10_tokens.f
   repeat' first
   | (with_reducible exact LeO.refl _)
   | exact ih0 _
   | exact ih1 _ _ _
   | exact LeO.none _
   | refine LeO.ite ?_ ?_
   | refine LeO.bind ?_ (fun _ => ?_)
  ·
   intro y0 y1 y2
   unfold salchowlaw10_tokens.l0
   repeat' first
   | (with_reducible exact LeO.refl _)
   | exact ih0 _
   | exact ih1 _ _ _
   | exact LeO.none _
   | refine LeO.ite ?_ ?_
   | refine LeO.bind ?_ (fun _ => ?_)
theorem salchowlaw10_tokens.mono : ∀ a0 k, LeO (salchowlaw10_tokens.f k a0) (salchowlaw10_tokens.f (k + 1) a0) := by
 intro a0 k
 obtain ⟨ih0, ih1⟩ := salchowlaw10_tokens.mono_l k
 exact ih0 a0
set_option maxHeartbeats 8000000 in
set_option maxRecDepth 100000 in
theorem salchowlaw10_tokens.calls (k : Nat) : ∀ (A0 : Option Addr) (c0 : Nat) (l0 : List (S41)) (r : List (S46)) (w : World) (hr0 : Kd.C k41 w A0 l0.length l0) (hc0 : l0.length ≤ c0) (h : salchowlaw10_tokens.f k l0 = some r),
  Calls Tryd.prog 27 #[.slice A0 l0.length c0] w fun e w' => ∃ v0_ : Value, e = .returned (v0_) ∧ Kd.R k46 46 w' w.heap.size (fun _ => True) v0_ r ∧ Below w.heap.size w w' := by
 induction k using Nat.strongRecOn with
 | _ k ih =>
 intro A0 c0 l0 r w hr0 hc0 h
 cases k with
 | zero => exact absurd h (by simp [salchowlaw10_tokens.f])
 | succ k =>
 simp only [salchowlaw10_tokens.f] at h
 have hu46 := Tryd.underlying46
 have HR0 := Aside0.mk hr0
 have HC0 := Aside0.mk hc0
 clear hr0 hc0
 have HB := Aside0.mk (Below.refl w.heap.size w)
 have H : (salchowlaw10_tokens.l0 k l0 ([] : List (S46)) 0) = some r := h
 clear h
 have H' := Aside0.mk H
 clear H
 go_enter Tryd.func27, Tryd.ntmps27
 go_wp2
 go_loopg [3, 4] k (fun kq v3 v4 w' => ∃ (x3_1 : List (S46)) (x4_1 : Int), v4 = .int .i64 x4_1 ∧ Aside0 (salchowlaw10_tokens.l0 kq l0 x3_1 x4_1 = some r) ∧ Aside0 (kq ≤ k) ∧ Aside0 (Kd.R k46 46 w' w.heap.size (fun _ => True) v3 x3_1) ∧ Aside0 (Below w.heap.size w w'))
 case atStart => exact ⟨(([] : List (S46))), (0), sr_, H', ⟨Nat.le_refl _⟩, ⟨ni_⟩, ⟨bl_ HB.out⟩⟩
 case round =>
  clear H'
  obtain ⟨x3_1, x4_1, rfl, HA, HK1, HO_3, HB⟩ := hrel
  cases gk with
  | zero => exact absurd HA.out (by simp [salchowlaw10_tokens.l0])
  | succ k1 =>
   have H := HA.out
   clear HA
   simp only [salchowlaw10_tokens.l0] at H
   by_cases c2 : x4_1 < (l0.length : Int)
   ·
    rw [if_pos c2] at H
    have c2b0 := decide_eq_true c2
    clear c2
    by_cases c3 : 0 ≤ x4_1
    ·
     rw [if_pos c3] at H
     have c3b0 := decide_eq_true c3
     clear c3
     by_cases c4 : x3_1.length < 3518437208883
     ·
      rw [if_pos c4] at H
      have LMc4 := Aside0.mk c4
      clear c4
      obtain ⟨y323, hy323⟩ : ∃ y_ : List (S46), y_ = (x3_1 ++ [(⟨1, (rd_T41 l0 x4_1).f0, 0, 0⟩ : S46)]) := ⟨_, rfl⟩
      replace H : (if y323.length + ((rd_T41 l0 x4_1).f1).length < 3518437208883 then ((some (y323 ++ ((rd_T41 l0 x4_1).f1) : List (S46))).bind fun y327 => (if ((rd_T41 l0 x4_1).f2 = true) then (if y327.length < 3518437208883 then ((some (y327 ++ [(⟨4, (⟨#[123]⟩ : ByteArray), 0, 0⟩ : S46)] : List (S46))).bind fun y331 => ((salchowlaw10_tokens.f k1 ((rd_T41 l0 x4_1).f3)).bind fun t335 => (if y331.length + t335.length < 3518437208883 then ((some (y331 ++ t335 : List (S46))).bind fun y338 => (if y338.length < 3518437208883 then (salchowlaw10_tokens.l0 k1 l0 (y338 ++ [(⟨4, (⟨#[125]⟩ : ByteArray), 0, 0⟩ : S46)]) (wrap64 (x4_1 + 1))) else (none))) else (none)))) else (none)) else (if y327.length < 3518437208883 then (salchowlaw10_tokens.l0 k1 l0 (y327 ++ [(⟨4, (⟨#[59]⟩ : ByteArray), 0, 0⟩ : S46)]) (wrap64 (x4_1 + 1))) else (none)))) else (none)) = some r := by first | (rw [hy323]; with_reducible exact H) | (have H2_ := (Option.bind_some _ _).symm.trans H; rw [hy323]; with_reducible exact H2_) | (have H2_ := (Option.bind_some _ _).symm.trans H; with_reducible exact H2_) | with_reducible exact H | (rw [hy323]; exact H) | exact H
      have Ny323 := Aside0.mk hy323
      clear hy323
      by_cases c5 : y323.length + ((rd_T41 l0 x4_1).f1).length < 3518437208883
      ·
       rw [if_pos c5] at H
       have LMc5 := Aside0.mk c5
       clear c5
       obtain ⟨y327, hy327⟩ : ∃ y_ : List (S46), y_ = (y323 ++ ((rd_T41 l0 x4_1).f1)) := ⟨_, rfl⟩
       replace H : (if ((rd_T41 l0 x4_1).f2 = true) then (if y327.length < 3518437208883 then ((some (y327 ++ [(⟨4, (⟨#[123]⟩ : ByteArray), 0, 0⟩ : S46)] : List (S46))).bind fun y331 => ((salchowlaw10_tokens.f k1 ((rd_T41 l0 x4_1).f3)).bind fun t335 => (if y331.length + t335.length < 3518437208883 then ((some (y331 ++ t335 : List (S46))).bind fun y338 => (if y338.length < 3518437208883 then (salchowlaw10_tokens.l0 k1 l0 (y338 ++ [(⟨4, (⟨#[125]⟩ : ByteArray), 0, 0⟩ : S46)]) (wrap64 (x4_1 + 1))) else (none))) else (none)))) else (none)) else (if y327.length < 3518437208883 then (salchowlaw10_tokens.l0 k1 l0 (y327 ++ [(⟨4, (⟨#[59]⟩ : ByteArray), 0, 0⟩ : S46)]) (wrap64 (x4_1 + 1))) else (none))) = some r := by first | (rw [hy327]; with_reducible exact H) | (have H2_ := (Option.bind_some _ _).symm.trans H; rw [hy327]; with_reducible exact H2_) | (have H2_ := (Option.bind_some _ _).symm.trans H; with_reducible exact H2_) | with_reducible exact H | (rw [hy327]; exact H) | exact H
       have Ny327 := Aside0.mk hy327
       clear hy327
       obtain ⟨bq6, hbq6⟩ : ∃ b_ : Bool, b_ = ((rd_T41 l0 x4_1).f2) := ⟨_, rfl⟩
       replace H : (if (bq6 = true) then (if y327.length < 3518437208883 then ((some (y327 ++ [(⟨4, (⟨#[123]⟩ : ByteArray), 0, 0⟩ : S46)] : List (S46))).bind fun y331 => ((salchowlaw10_tokens.f k1 ((rd_T41 l0 x4_1).f3)).bind fun t335 => (if y331.length + t335.length < 3518437208883 then ((some (y331 ++ t335 : List (S46))).bind fun y338 => (if y338.length < 3518437208883 then (salchowlaw10_tokens.l0 k1 l0 (y338 ++ [(⟨4, (⟨#[125]⟩ : ByteArray), 0, 0⟩ : S46)]) (wrap64 (x4_1 + 1))) else (none))) else (none)))) else (none)) else (if y327.length < 3518437208883 then (salchowlaw10_tokens.l0 k1 l0 (y327 ++ [(⟨4, (⟨#[59]⟩ : ByteArray), 0, 0⟩ : S46)]) (wrap64 (x4_1 + 1))) else (none))) = some r := by rw [← hbq6] at H; exact H
       have Nbq6 := Aside0.mk hbq6
       clear hbq6
       by_cases c7 : (bq6 = true)
       ·
        subst c7
        have H1 : (if y327.length < 3518437208883 then ((some (y327 ++ [(⟨4, (⟨#[123]⟩ : ByteArray), 0, 0⟩ : S46)] : List (S46))).bind fun y331 => ((salchowlaw10_tokens.f k1 ((rd_T41 l0 x4_1).f3)).bind fun t335 => (if y331.length + t335.length < 3518437208883 then ((some (y331 ++ t335 : List (S46))).bind fun y338 => (if y338.length < 3518437208883 then (salchowlaw10_tokens.l0 k1 l0 (y338 ++ [(⟨4, (⟨#[125]⟩ : ByteArray), 0, 0⟩ : S46)]) (wrap64 (x4_1 + 1))) else (none))) else (none)))) else (none)) = some r := by rw [if_pos rfl] at H; exact H
        clear H
        have H := H1
        clear H1
        by_cases c8 : y327.length < 3518437208883
        ·
         rw [if_pos c8] at H
         have LMc8 := Aside0.mk c8
         clear c8
         obtain ⟨y331, hy331⟩ : ∃ y_ : List (S46), y_ = (y327 ++ [(⟨4, (⟨#[123]⟩ : ByteArray), 0, 0⟩ : S46)]) := ⟨_, rfl⟩
         replace H : ((salchowlaw10_tokens.f k1 ((rd_T41 l0 x4_1).f3)).bind fun t335 => (if y331.length + t335.length < 3518437208883 then ((some (y331 ++ t335 : List (S46))).bind fun y338 => (if y338.length < 3518437208883 then (salchowlaw10_tokens.l0 k1 l0 (y338 ++ [(⟨4, (⟨#[125]⟩ : ByteArray), 0, 0⟩ : S46)]) (wrap64 (x4_1 + 1))) else (none))) else (none))) = some r := by first | (rw [hy331]; with_reducible exact H) | (have H2_ := (Option.bind_some _ _).symm.trans H; rw [hy331]; with_reducible exact H2_) | (have H2_ := (Option.bind_some _ _).symm.trans H; with_reducible exact H2_) | with_reducible exact H | (rw [hy331]; exact H) | exact H
         have Ny331 := Aside0.mk hy331
         clear hy331
         replace H := Option.bind_eq_some_iff.mp H
         obtain ⟨t335, A90, H⟩ := H
         (try dsimp only at H)
         have A9 := Aside0.mk A90
         clear A90
         by_cases c10 : y331.length + t335.length < 3518437208883
         ·
          rw [if_pos c10] at H
          have LMc10 := Aside0.mk c10
          clear c10
          obtain ⟨y338, hy338⟩ : ∃ y_ : List (S46), y_ = (y331 ++ t335) := ⟨_, rfl⟩
          replace H : (if y338.length < 3518437208883 then (salchowlaw10_tokens.l0 k1 l0 (y338 ++ [(⟨4, (⟨#[125]⟩ : ByteArray), 0, 0⟩ : S46)]) (wrap64 (x4_1 + 1))) else (none)) = some r := by first | (rw [hy338]; with_reducible exact H) | (have H2_ := (Option.bind_some _ _).symm.trans H; rw [hy338]; with_reducible exact H2_) | (have H2_ := (Option.bind_some _ _).symm.trans H; with_reducible exact H2_) | with_reducible exact H | (rw [hy338]; exact H) | exact H
          have Ny338 := Aside0.mk hy338
          clear hy338
          by_cases c11 : y338.length < 3518437208883
          ·
           rw [if_pos c11] at H
           have LMc11 := Aside0.mk c11
           clear c11
           obtain ⟨y341, hy341⟩ : ∃ y_ : List (S46), y_ = (y338 ++ [(⟨4, (⟨#[125]⟩ : ByteArray), 0, 0⟩ : S46)]) := ⟨_, rfl⟩
           replace H : (salchowlaw10_tokens.l0 k1 l0 y341 (wrap64 (x4_1 + 1))) = some r := by first | (rw [hy341]; with_reducible exact H) | (have H2_ := (Option.bind_some _ _).symm.trans H; rw [hy341]; with_reducible exact H2_) | (have H2_ := (Option.bind_some _ _).symm.trans H; with_reducible exact H2_) | with_reducible exact H | (rw [hy341]; exact H) | exact H
           have Ny341 := Aside0.mk hy341
           clear hy341
           have H' := Aside0.mk H
           clear H
           have p322 : 0 ≤ (x4_1 : Int) := dt_
           have q322 : x4_1 < (l0.length : Int) := dt_
           obtain ⟨ad322, A322_1, c322_1, A322_3, c322_3, e322, hx322_0, hx322_1, hx322_2, hx322_3, hx322_4, hl322_1, hi322_1, hl322_3, hi322_3⟩ := at_T41 HR0.out x4_1 p322 q322
           (try rw [← Nbq6.out] at hx322_2)
           cases e322
           replace hx322_0 := pw_cell_below HB.out hx322_0
           replace hx322_1 := pw_cell_below HB.out hx322_1
           replace hx322_2 := pw_cell_below HB.out hx322_2
           replace hx322_3 := pw_cell_below HB.out hx322_3
           replace hx322_4 := pw_cell_below HB.out hx322_4
           have HR322_1 := Aside0.mk hi322_1
           have HC322_1 := Aside0.mk hl322_1
           clear hi322_1 hl322_1
           have HR322_3 := Aside0.mk hi322_3
           have HC322_3 := Aside0.mk hl322_3
           clear hi322_3 hl322_3
           replace p322 := eq_true p322
           replace q322 := eq_true q322
           go_wp2_with (first | ((with_reducible refine gate_builtin (b := .append) (xs := #[.tmp 11, .tmp 18]) rfl ?_); at_builtin; refine Kd.R_append k46 (w0 := w) w.heap.size rfl (.tmp 11) (.tmp 18) 31 46 (.agg #[(.int .i64 0), (.string ⟨#[]⟩), (.int .i64 0), (.int .i64 0)]) 40 rfl Tryd.underlying31 info46 rfl (by decide) (by omega) u3 x3_1 (⟨1, (rd_T41 l0 x4_1).f0, 0, 0⟩ : S46) [.int .i64 1, .string ((rd_T41 l0 x4_1).f0), .int .i64 0, .int .i64 0] (fun _ => True) (fun _ => False) rfl rfl ?aP (fun _ hk => hk.elim) ?aF ?aO ?aB ?aS ?aL ?_; (case aP => exact k46_mkM _ _ _ (⟨1, (rd_T41 l0 x4_1).f0, 0, 0⟩ : S46)); (case aB => exact (bl_ HB.out)); (case aF => exact (fun _ _ => trivial)); (case aO => exact (rR_ HO_3.out)); (case aS => exact (below_size (bl_ HB.out))); (case aL => have := LMc4.out; omega); intro v324 w12 ho hb hg hat; rw [← Ny323.out] at ho; refine cut2_ (hb) (ho) ?_; clear HB HO_3; intro HB HO325; clear ho hb hg hat; have p326 : 0 ≤ (x4_1 : Int) := dt_; have q326 : x4_1 < (l0.length : Int) := dt_; obtain ⟨ad326, A326_1, c326_1, A326_3, c326_3, e326, hx326_0, hx326_1, hx326_2, hx326_3, hx326_4, hl326_1, hi326_1, hl326_3, hi326_3⟩ := at_T41 HR0.out x4_1 p326 q326; (try rw [← Nbq6.out] at hx326_2); obtain rfl : ad322 = ad326 := (by injection e326); replace hx326_0 := pw_cell_below HB.out hx326_0; replace hx326_1 := pw_cell_below HB.out hx326_1; replace hx326_2 := pw_cell_below HB.out hx326_2; replace hx326_3 := pw_cell_below HB.out hx326_3; replace hx326_4 := pw_cell_below HB.out hx326_4; have HR326_1 := Aside0.mk hi326_1; have HC326_1 := Aside0.mk hl326_1; clear hi326_1 hl326_1; have HR326_3 := Aside0.mk hi326_3; have HC326_3 := Aside0.mk hl326_3; clear hi326_3 hl326_3; replace p326 := eq_true p326; replace q326 := eq_true q326) | ((with_reducible refine gate_builtin (b := .append) (xs := #[.tmp 20, .tmp 25]) rfl ?_); at_builtin; refine Kd.R_append_rows k46 (w0 := w) w.heap.size rfl (.tmp 20) (.tmp 25) 31 46 (.agg #[(.int .i64 0), (.string ⟨#[]⟩), (.int .i64 0), (.int .i64 0)]) 40 rfl Tryd.underlying31 info46 rfl (by decide) (by omega) v324 y323 ((rd_T41 l0 x4_1).f1) _ _ _ (fun _ => True) (fun _ => False) rfl rfl ?aO ?aR (fun _ _ h => h) (fun _ h => h.elim) ?aF ?aB ?aS ?aL ?_; (case aR => repeat (first | exact (Kd.C_below HR326_1.out HB.out) | (with_reducible refine Kd.C_alloc ?_ _) | (with_reducible refine Kd.C_drewN ?_ _) | (with_reducible refine Kd.C_drew ?_))); (case aB => exact (bl_ HB.out)); (case aF => exact (fun _ _ => trivial)); (case aO => exact (rR_ HO325.out)); (case aS => exact (below_size (bl_ HB.out))); (case aL => have := LMc5.out; omega); intro v328 w13 ho hb hg hat; rw [← Ny327.out] at ho; refine cut2_ (hb) (ho) ?_; clear HB HO325; intro HB HO329; clear ho hb hg hat; have p330 : 0 ≤ (x4_1 : Int) := dt_; have q330 : x4_1 < (l0.length : Int) := dt_; obtain ⟨ad330, A330_1, c330_1, A330_3, c330_3, e330, hx330_0, hx330_1, hx330_2, hx330_3, hx330_4, hl330_1, hi330_1, hl330_3, hi330_3⟩ := at_T41 HR0.out x4_1 p330 q330; (try rw [← Nbq6.out] at hx330_2); obtain rfl : ad322 = ad330 := (by injection e330); replace hx330_0 := pw_cell_below HB.out hx330_0; replace hx330_1 := pw_cell_below HB.out hx330_1; replace hx330_2 := pw_cell_below HB.out hx330_2; replace hx330_3 := pw_cell_below HB.out hx330_3; replace hx330_4 := pw_cell_below HB.out hx330_4; have HR330_1 := Aside0.mk hi330_1; have HC330_1 := Aside0.mk hl330_1; clear hi330_1 hl330_1; have HR330_3 := Aside0.mk hi330_3; have HC330_3 := Aside0.mk hl330_3; clear hi330_3 hl330_3; replace p330 := eq_true p330; replace q330 := eq_true q330) | ((with_reducible refine gate_builtin (b := .append) (xs := #[.tmp 37, .tmp 39]) rfl ?_); at_builtin; refine Kd.R_append k46 (w0 := w) w.heap.size rfl (.tmp 37) (.tmp 39) 31 46 (.agg #[(.int .i64 0), (.string ⟨#[]⟩), (.int .i64 0), (.int .i64 0)]) 40 rfl Tryd.underlying31 info46 rfl (by decide) (by omega) v328 y327 (⟨4, (⟨#[123]⟩ : ByteArray), 0, 0⟩ : S46) [.int .i64 4, .string (⟨#[123]⟩ : ByteArray), .int .i64 0, .int .i64 0] (fun _ => True) (fun _ => False) rfl rfl ?aP (fun _ hk => hk.elim) ?aF ?aO ?aB ?aS ?aL ?_; (case aP => exact k46_mkM _ _ _ (⟨4, (⟨#[123]⟩ : ByteArray), 0, 0⟩ : S46)); (case aB => exact (bl_ HB.out)); (case aF => exact (fun _ _ => trivial)); (case aO => exact (rR_ HO329.out)); (case aS => exact (below_size (bl_ HB.out))); (case aL => have := LMc8.out; omega); intro v332 w14 ho hb hg hat; rw [← Ny331.out] at ho; refine cut2_ (hb) (ho) ?_; clear HB HO329; intro HB HO333; clear ho hb hg hat; have p334 : 0 ≤ (x4_1 : Int) := dt_; have q334 : x4_1 < (l0.length : Int) := dt_; obtain ⟨ad334, A334_1, c334_1, A334_3, c334_3, e334, hx334_0, hx334_1, hx334_2, hx334_3, hx334_4, hl334_1, hi334_1, hl334_3, hi334_3⟩ := at_T41 HR0.out x4_1 p334 q334; (try rw [← Nbq6.out] at hx334_2); obtain rfl : ad322 = ad334 := (by injection e334); replace hx334_0 := pw_cell_below HB.out hx334_0; replace hx334_1 := pw_cell_below HB.out hx334_1; replace hx334_2 := pw_cell_below HB.out hx334_2; replace hx334_3 := pw_cell_below HB.out hx334_3; replace hx334_4 := pw_cell_below HB.out hx334_4; have HR334_1 := Aside0.mk hi334_1; have HC334_1 := Aside0.mk hl334_1; clear hi334_1 hl334_1; have HR334_3 := Aside0.mk hi334_3; have HC334_3 := Aside0.mk hl334_3; clear hi334_3 hl334_3; replace p334 := eq_true p334; replace q334 := eq_true q334) | ((with_reducible refine gate_callee (f := 27) rfl ?_); refine goesL_ (some 47) rfl rfl Tryd.func27 (by kernel_rfl) rfl #[.slice A334_3 ((rd_T41 l0 x4_1).f3).length c334_3] rfl ga_ ?_; (with_reducible refine (ih k1 (by have := HK1.out; omega) _ _ ((rd_T41 l0 x4_1).f3) t335 _ ?side1 ?side2 A9.out).mono ?_); (case side1 => repeat (first | exact (Kd.C_below HR334_3.out HB.out) | (with_reducible refine Kd.C_alloc ?_ _) | (with_reducible refine Kd.C_drewN ?_ _) | (with_reducible refine Kd.C_drew ?_))); (case side2 => exact HC334_3.out); rintro e w15 ⟨v336, rfl, ho0, hb⟩; refine ⟨_, rfl, ?_⟩; refine cut3_ (Kd.R_elder' (rR_ HO333.out) (Kd.R_base ho0) hb) (Kd.R_lower (Kd.R_new' ho0 (Kd.R_lt (rR_ HO333.out))) (below_size (bl_ HB.out))) (below_step (bl_ HB.out) hb) ?_; clear HO333 HB; intro HO333 HO337 HB; (try clear hb); (try clear hb2); (try clear hk); (try clear hi); (try clear ho0); obtain ⟨Ao17, co17, eo17⟩ := Kd.R_slice HO337.out; subst eo17) | ((with_reducible refine gate_builtin (b := .append) (xs := #[.tmp 41, .tmp 47]) rfl ?_); at_builtin; refine Kd.R_append_rows k46 (w0 := w) w.heap.size rfl (.tmp 41) (.tmp 47) 31 46 (.agg #[(.int .i64 0), (.string ⟨#[]⟩), (.int .i64 0), (.int .i64 0)]) 40 rfl Tryd.underlying31 info46 rfl (by decide) (by omega) v332 y331 t335 _ _ _ (fun k_ => some k_ ≠ (.slice Ao17 t335.length co17 : Value).ownBlock) (fun _ => False) rfl rfl ?aO ?aR (fun _ _ h => h) (fun _ h => h.elim) ?aF ?aB ?aS ?aL ?_; (case aR => repeat (first | exact (Kd.R_reads' HO337.out).2.2 | (with_reducible refine Kd.C_alloc ?_ _) | (with_reducible refine Kd.C_drewN ?_ _) | (with_reducible refine Kd.C_drew ?_))); (case aB => exact (bl_ HB.out)); (case aF => exact (fun k_ hk => Kd.fresh' (Kd.R_lt (rR_ HO337.out)) k_ hk)); (case aO => exact (rR_ (Kd.R_mono HO333.out (fun _ hk => hk.2)))); (case aS => exact (below_size (bl_ HB.out))); (case aL => have := LMc10.out; omega); intro v339 w16 ho hb hg hat; rw [← Ny338.out] at ho; refine cut3_ (Kd.R_after (ok := (fun _ => True)) (rR_ HO337.out) hg hat) (hb) (ho) ?_; clear HO337 HB HO333; intro HO337 HB HO340; clear ho hb hg hat) | ((with_reducible refine gate_builtin (b := .append) (xs := #[.tmp 49, .tmp 51]) rfl ?_); at_builtin; refine Kd.R_append k46 (w0 := w) w.heap.size rfl (.tmp 49) (.tmp 51) 31 46 (.agg #[(.int .i64 0), (.string ⟨#[]⟩), (.int .i64 0), (.int .i64 0)]) 40 rfl Tryd.underlying31 info46 rfl (by decide) (by omega) v339 y338 (⟨4, (⟨#[125]⟩ : ByteArray), 0, 0⟩ : S46) [.int .i64 4, .string (⟨#[125]⟩ : ByteArray), .int .i64 0, .int .i64 0] (fun k_ => some k_ ≠ (.slice Ao17 t335.length co17 : Value).ownBlock) (fun _ => False) rfl rfl ?aP (fun _ hk => hk.elim) ?aF ?aO ?aB ?aS ?aL ?_; (case aP => exact k46_mkM _ _ _ (⟨4, (⟨#[125]⟩ : ByteArray), 0, 0⟩ : S46)); (case aB => exact (bl_ HB.out)); (case aF => exact (fun k_ hk => Kd.fresh' (Kd.R_lt (rR_ HO337.out)) k_ hk)); (case aO => exact (rR_ HO340.out)); (case aS => exact (below_size (bl_ HB.out))); (case aL => have := LMc11.out; omega); intro v342 w18 ho hb hg hat; rw [← Ny341.out] at ho; refine cut3_ (Kd.R_after (ok := (fun _ => True)) (rR_ HO337.out) hg hat) (hb) (ho) ?_; clear HO337 HB HO340; intro HO337 HB HO343; clear ho hb hg hat))
           go_roundg k1
           case measure => have := HK1.out; omega
           case rel => exact ⟨(y341), (wrap64 (x4_1 + 1)), sr_, H', ⟨by have := HK1.out; omega⟩, ⟨by (with_reducible repeat (first | apply Kd.R_alloc | apply Kd.R_drewN | apply Kd.R_drew)); exact Kd.R_mono HO343.out (fun _ hk => trivial)⟩, ⟨bl_ HB.out⟩⟩
          ·
           rw [if_neg c11] at H
           exact absurd H (by simp)
         ·
          rw [if_neg c10] at H
          exact absurd H (by simp)
        ·
         rw [if_neg c8] at H
         exact absurd H (by simp)
       ·
        replace c7 := Bool.eq_false_iff.mpr c7
        subst c7
        have H1 : (if y327.length < 3518437208883 then (salchowlaw10_tokens.l0 k1 l0 (y327 ++ [(⟨4, (⟨#[59]⟩ : ByteArray), 0, 0⟩ : S46)]) (wrap64 (x4_1 + 1))) else (none)) = some r := by rw [if_neg (show ¬ (false = true) by decide)] at H; exact H
        clear H
        have H := H1
        clear H1
        by_cases c19 : y327.length < 3518437208883
        ·
         rw [if_pos c19] at H
         have LMc19 := Aside0.mk c19
         clear c19
         obtain ⟨y344, hy344⟩ : ∃ y_ : List (S46), y_ = (y327 ++ [(⟨4, (⟨#[59]⟩ : ByteArray), 0, 0⟩ : S46)]) := ⟨_, rfl⟩
         replace H : (salchowlaw10_tokens.l0 k1 l0 y344 (wrap64 (x4_1 + 1))) = some r := by first | (rw [hy344]; with_reducible exact H) | (have H2_ := (Option.bind_some _ _).symm.trans H; rw [hy344]; with_reducible exact H2_) | (have H2_ := (Option.bind_some _ _).symm.trans H; with_reducible exact H2_) | with_reducible exact H | (rw [hy344]; exact H) | exact H
         have Ny344 := Aside0.mk hy344
         clear hy344
         have H' := Aside0.mk H
         clear H
         have p322 : 0 ≤ (x4_1 : Int) := dt_
         have q322 : x4_1 < (l0.length : Int) := dt_
         obtain ⟨ad322, A322_1, c322_1, A322_3, c322_3, e322, hx322_0, hx322_1, hx322_2, hx322_3, hx322_4, hl322_1, hi322_1, hl322_3, hi322_3⟩ := at_T41 HR0.out x4_1 p322 q322
         (try rw [← Nbq6.out] at hx322_2)
         cases e322
         replace hx322_0 := pw_cell_below HB.out hx322_0
         replace hx322_1 := pw_cell_below HB.out hx322_1
         replace hx322_2 := pw_cell_below HB.out hx322_2
         replace hx322_3 := pw_cell_below HB.out hx322_3
         replace hx322_4 := pw_cell_below HB.out hx322_4
         have HR322_1 := Aside0.mk hi322_1
         have HC322_1 := Aside0.mk hl322_1
         clear hi322_1 hl322_1
         have HR322_3 := Aside0.mk hi322_3
         have HC322_3 := Aside0.mk hl322_3
         clear hi322_3 hl322_3
         replace p322 := eq_true p322
         replace q322 := eq_true q322
         go_wp2_with (first | ((with_reducible refine gate_builtin (b := .append) (xs := #[.tmp 11, .tmp 18]) rfl ?_); at_builtin; refine Kd.R_append k46 (w0 := w) w.heap.size rfl (.tmp 11) (.tmp 18) 31 46 (.agg #[(.int .i64 0), (.string ⟨#[]⟩), (.int .i64 0), (.int .i64 0)]) 40 rfl Tryd.underlying31 info46 rfl (by decide) (by omega) u3 x3_1 (⟨1, (rd_T41 l0 x4_1).f0, 0, 0⟩ : S46) [.int .i64 1, .string ((rd_T41 l0 x4_1).f0), .int .i64 0, .int .i64 0] (fun _ => True) (fun _ => False) rfl rfl ?aP (fun _ hk => hk.elim) ?aF ?aO ?aB ?aS ?aL ?_; (case aP => exact k46_mkM _ _ _ (⟨1, (rd_T41 l0 x4_1).f0, 0, 0⟩ : S46)); (case aB => exact (bl_ HB.out)); (case aF => exact (fun _ _ => trivial)); (case aO => exact (rR_ HO_3.out)); (case aS => exact (below_size (bl_ HB.out))); (case aL => have := LMc4.out; omega); intro v324 w20 ho hb hg hat; rw [← Ny323.out] at ho; refine cut2_ (hb) (ho) ?_; clear HB HO_3; intro HB HO325; clear ho hb hg hat; have p326 : 0 ≤ (x4_1 : Int) := dt_; have q326 : x4_1 < (l0.length : Int) := dt_; obtain ⟨ad326, A326_1, c326_1, A326_3, c326_3, e326, hx326_0, hx326_1, hx326_2, hx326_3, hx326_4, hl326_1, hi326_1, hl326_3, hi326_3⟩ := at_T41 HR0.out x4_1 p326 q326; (try rw [← Nbq6.out] at hx326_2); obtain rfl : ad322 = ad326 := (by injection e326); replace hx326_0 := pw_cell_below HB.out hx326_0; replace hx326_1 := pw_cell_below HB.out hx326_1; replace hx326_2 := pw_cell_below HB.out hx326_2; replace hx326_3 := pw_cell_below HB.out hx326_3; replace hx326_4 := pw_cell_below HB.out hx326_4; have HR326_1 := Aside0.mk hi326_1; have HC326_1 := Aside0.mk hl326_1; clear hi326_1 hl326_1; have HR326_3 := Aside0.mk hi326_3; have HC326_3 := Aside0.mk hl326_3; clear hi326_3 hl326_3; replace p326 := eq_true p326; replace q326 := eq_true q326) | ((with_reducible refine gate_builtin (b := .append) (xs := #[.tmp 20, .tmp 25]) rfl ?_); at_builtin; refine Kd.R_append_rows k46 (w0 := w) w.heap.size rfl (.tmp 20) (.tmp 25) 31 46 (.agg #[(.int .i64 0), (.string ⟨#[]⟩), (.int .i64 0), (.int .i64 0)]) 40 rfl Tryd.underlying31 info46 rfl (by decide) (by omega) v324 y323 ((rd_T41 l0 x4_1).f1) _ _ _ (fun _ => True) (fun _ => False) rfl rfl ?aO ?aR (fun _ _ h => h) (fun _ h => h.elim) ?aF ?aB ?aS ?aL ?_; (case aR => repeat (first | exact (Kd.C_below HR326_1.out HB.out) | (with_reducible refine Kd.C_alloc ?_ _) | (with_reducible refine Kd.C_drewN ?_ _) | (with_reducible refine Kd.C_drew ?_))); (case aB => exact (bl_ HB.out)); (case aF => exact (fun _ _ => trivial)); (case aO => exact (rR_ HO325.out)); (case aS => exact (below_size (bl_ HB.out))); (case aL => have := LMc5.out; omega); intro v328 w21 ho hb hg hat; rw [← Ny327.out] at ho; refine cut2_ (hb) (ho) ?_; clear HB HO325; intro HB HO329; clear ho hb hg hat; have p330 : 0 ≤ (x4_1 : Int) := dt_; have q330 : x4_1 < (l0.length : Int) := dt_; obtain ⟨ad330, A330_1, c330_1, A330_3, c330_3, e330, hx330_0, hx330_1, hx330_2, hx330_3, hx330_4, hl330_1, hi330_1, hl330_3, hi330_3⟩ := at_T41 HR0.out x4_1 p330 q330; (try rw [← Nbq6.out] at hx330_2); obtain rfl : ad322 = ad330 := (by injection e330); replace hx330_0 := pw_cell_below HB.out hx330_0; replace hx330_1 := pw_cell_below HB.out hx330_1; replace hx330_2 := pw_cell_below HB.out hx330_2; replace hx330_3 := pw_cell_below HB.out hx330_3; replace hx330_4 := pw_cell_below HB.out hx330_4; have HR330_1 := Aside0.mk hi330_1; have HC330_1 := Aside0.mk hl330_1; clear hi330_1 hl330_1; have HR330_3 := Aside0.mk hi330_3; have HC330_3 := Aside0.mk hl330_3; clear hi330_3 hl330_3; replace p330 := eq_true p330; replace q330 := eq_true q330) | ((with_reducible refine gate_builtin (b := .append) (xs := #[.tmp 33, .tmp 35]) rfl ?_); at_builtin; refine Kd.R_append k46 (w0 := w) w.heap.size rfl (.tmp 33) (.tmp 35) 31 46 (.agg #[(.int .i64 0), (.string ⟨#[]⟩), (.int .i64 0), (.int .i64 0)]) 40 rfl Tryd.underlying31 info46 rfl (by decide) (by omega) v328 y327 (⟨4, (⟨#[59]⟩ : ByteArray), 0, 0⟩ : S46) [.int .i64 4, .string (⟨#[59]⟩ : ByteArray), .int .i64 0, .int .i64 0] (fun _ => True) (fun _ => False) rfl rfl ?aP (fun _ hk => hk.elim) ?aF ?aO ?aB ?aS ?aL ?_; (case aP => exact k46_mkM _ _ _ (⟨4, (⟨#[59]⟩ : ByteArray), 0, 0⟩ : S46)); (case aB => exact (bl_ HB.out)); (case aF => exact (fun _ _ => trivial)); (case aO => exact (rR_ HO329.out)); (case aS => exact (below_size (bl_ HB.out))); (case aL => have := LMc19.out; omega); intro v345 w22 ho hb hg hat; rw [← Ny344.out] at ho; refine cut2_ (hb) (ho) ?_; clear HB HO329; intro HB HO346; clear ho hb hg hat))
         go_roundg k1
         case measure => have := HK1.out; omega
         case rel => exact ⟨(y344), (wrap64 (x4_1 + 1)), sr_, H', ⟨by have := HK1.out; omega⟩, ⟨by (with_reducible repeat (first | apply Kd.R_alloc | apply Kd.R_drewN | apply Kd.R_drew)); exact HO346.out⟩, ⟨bl_ HB.out⟩⟩
        ·
         rw [if_neg c19] at H
         exact absurd H (by simp)
      ·
       rw [if_neg c5] at H
       exact absurd H (by simp)
     ·
      rw [if_neg c4] at H
      exact absurd H (by simp)
    ·
     rw [if_neg c3] at H
     exact absurd H (by simp)
   ·
    rw [if_neg c2] at H
    have c2b0 := decide_eq_false c2
    clear c2
    obtain rfl := Option.some.inj H
    go_wp2
    go_ret
    exact ⟨_, er_, by (with_reducible repeat (first | apply Kd.R_alloc | apply Kd.R_drewN | apply Kd.R_drew)); exact HO_3.out, bl_ HB.out⟩
end Go.Proofs.YtkifdadhojbohaaDoor.Pr
namespace Go.Proofs.YtkifdadhojbohaaDoor.Pu
open Go.RowKit Go.Proofs.YtkifdadhojbohaaDoor Go.Proofs.YtkifdadhojbohaaDoor.Pr Go.Proofs.YtkifdadhojbohaaDoorW.PrintWords Go.Proofs.YtkifdadhojbohaaDoorW.PrintLast Go.Proofs.YtkifdadhojbohaaDoorW.PrintMore
theorem word_ok (s : ByteArray) (hs : s.size ≤ 900000) : Ev (fun k => lexer_Valid.f k 1 s 0 0) (validB 1 (lst s) 0) := valid_f 1 s (by omega) 0 0
theorem formed_f : ∀ l, szL l ≤ 900000 → AllC (txt 900000) l → Ev (fun k => parser_formed.f k l) (formL l) := by
  have loop : ∀ l, szL l ≤ 900000 → AllC (txt 900000) l → ∀ (A : List S41) (i : Nat), A.drop i = l → A.length ≤ 900000 → i ≤ A.length → Ev (fun k => parser_formed.l0 k A (A.length : Int) (i : Int)) (formL l) := by
    refine indL ?_ ?_
    · intro _ _ A i hA hn hi
      have : A.length ≤ i := by
        have := congrArg List.length hA
        rw [List.length_drop] at this
        simp at this; omega
      refine Ev.succ ?_
      simp only [parser_formed.l0]
      exact Ev.ifn (by omega) (Ev.ret (by simp [formL]))
    · intro c l h1 h2 hs hP A i hA hn hi
      rw [szL] at hs
      cases hP with
      | cons _ _ hc hk hr =>
      obtain ⟨hw, ha⟩ := hc
      obtain ⟨a1, a2, a3⟩ := rd41_at hA
      have hc := len_le c.f3
      have inner : ∀ (d j : Nat) (ats : List S46), c.f1.drop j = ats → j ≤ c.f1.length → c.f1.length - j = d →
          Ev (fun k => parser_formed.l1 k A (A.length : Int) (i : Int) c.f1 (c.f1.length : Int) (j : Int) c.f0 c.f1 c.f2 c.f3 c.f4) (ats.all okA && formL c.f3 && formL l) := by
        intro d
        induction d with
        | zero =>
          intro j ats hj hjl hd
          have e : ats = [] := by rw [← hj]; exact List.drop_eq_nil_of_le (by omega)
          subst e
          refine Ev.succ ?_
          simp only [parser_formed.l1]
          refine Ev.ifn (by omega) (Ev.bind (a := formL c.f3) ?_ ?_)
          · refine Ev.succ ?_
            simp only [parser_formed.f]
            exact h1 (by omega) hk c.f3 0 rfl (by omega) (by omega)
          · cases hf : formL c.f3 with
            | false => exact Ev.ifn (by simp) (Ev.ret (by simp))
            | true =>
              refine Ev.ifp rfl ?_
              rw [wrap_nat i (by omega)]
              simpa using h2 (by omega) hr A (i + 1) a3 hn (by omega)
        | succ d ih =>
          intro j ats hj hjl hd
          cases ats with
          | nil =>
            have := congrArg List.length hj
            rw [List.length_drop] at this
            simp at this; omega
          | cons a ats =>
            obtain ⟨b1, b2, b3⟩ := rd_at hj
            have hm : a ∈ c.f1 := List.mem_of_mem_drop (by rw [hj]; simp)
            refine Ev.succ ?_
            simp only [parser_formed.l1, b2, atom_f]
            rw [wrap_nat j (by omega)]
            refine Ev.ifp (by omega) (Ev.ifp natO (Ev.ifp (by omega) (Ev.val rfl ?_)))
            cases hA' : isA a with
            | false => exact Ev.ifn (by simp) (Ev.ret (by simp [okA, hA']))
            | true =>
              refine Ev.ifp rfl (Ev.bind (valid_f a.f0 a.f1 (by have := ha a hm; omega) a.f2 a.f3) ?_)
              cases hv : validB a.f0 (lst a.f1) a.f2 with
              | false => exact Ev.ifn (by simp) (Ev.ret (by simp [okA, hv]))
              | true =>
                refine Ev.ifp rfl ?_
                have := ih (j + 1) ats b3 (by omega) (by omega)
                simpa [okA, hA', hv] using this
      refine Ev.succ ?_
      simp only [parser_formed.l0, a2]
      refine Ev.ifp (by omega) (Ev.ifp natO (Ev.ifp (by omega) (Ev.bind (word_ok c.f0 hw) ?_)))
      rw [formL]
      cases hv : validB 1 (lst c.f0) 0 with
      | false => exact Ev.ifn (by simp) (Ev.ret (by simp))
      | true =>
        refine Ev.ifp rfl ?_
        have g := inner c.f1.length 0 c.f1 rfl (by omega) (by omega)
        by_cases hb : c.f2 = true
        · refine Ev.ifp hb ?_
          simpa [hb] using g
        · refine Ev.ifn hb ?_
          by_cases hz : ((c.f3).length : Int) > 0
          · refine Ev.ifp hz (Ev.ret ?_)
            have : c.f3 ≠ [] := by intro e; rw [e] at hz; simp at hz
            simp [hb, this]
          · refine Ev.ifn hz ?_
            have : c.f3 = [] := by
              cases h : c.f3 with
              | nil => rfl
              | cons _ _ => rw [h] at hz; simp at hz
            simpa [this] using g
  intro l hl hP
  have := len_le l
  refine Ev.succ ?_
  simp only [parser_formed.f]
  exact loop l hl hP l 0 rfl (by omega) (by omega)
theorem Check_f (l : List S41) (hl : szL l ≤ 900000) (hP : AllC (txt 900000) l) : Ev (fun k => parser_Check.f k l) (chkL l) := by
  unfold parser_Check.f chkL
  refine Ev.bind (formed_f l hl hP) ?_
  cases hf : formL l with
  | false => exact Ev.ifn (by simp) (Ev.ret (by simp))
  | true =>
    refine Ev.ifp rfl (Ev.bind (Depth_f l hl) ?_)
    by_cases h8 : 8 < depL l
    · exact Ev.ifp (by omega) (Ev.ret (by simp [h8]))
    · exact Ev.ifn (by omega) (Ev.ret (by simp [h8]))
end Go.Proofs.YtkifdadhojbohaaDoor.Pu
namespace Go.Proofs.YtkifdadhojbohaaDoor.Pr
open Go.Proofs.YtkifdadhojbohaaDoor
open Go.RowKit Go.Proofs.YtkifdadhojbohaaDoorW.PrintWords Go.Proofs.YtkifdadhojbohaaDoorW.PrintLast Go.Proofs.YtkifdadhojbohaaDoorW.PrintMore
attribute [local go_sem] max2_int min2_int max_two min_two max_three min_three max_four min_four   -- for this text's walks alone
set_option linter.unusedVariables false
set_option linter.unusedSimpArgs false
mutual
def salchowref10_room.l0 : Nat → List (S41) → Int → Int → Option (Int)
 | 0, _, _, _ => none
 | k + 1, x0, x1, x5 => if x5 < (x0.length : Int) then (salchowref10_room.j1 k x0 x1 x5 (decide (x1 ≥ 0))) else (salchowref10_room.j1 k x0 x1 x5 false)
def salchowref10_room.j1 : Nat → List (S41) → Int → Int → Bool → Option (Int)
 | 0, _, _, _, _ => none
 | k + 1, x0, x1, x5, x14 => if x14 = true then (if 0 ≤ x5 then (if x5 < (x0.length : Int) then (if (((rd_T41 x0 x5).f1).length : Int) > (wrap64 (x1 - 1)) then (salchowref10_room.j2 k x0 x1 x5 true) else (salchowref10_room.j2 k x0 x1 x5 (decide ((((rd_T41 x0 x5).f0).size : Int) > 200)))) else (none)) else (none)) else (some x1)
def salchowref10_room.j2 : Nat → List (S41) → Int → Int → Bool → Option (Int)
 | 0, _, _, _, _ => none
 | k + 1, x0, x1, x5, x34 => if x34 = true then (some (-1)) else (if 0 ≤ x5 then (if x5 < (x0.length : Int) then (salchowref10_room.l1 k x0 (wrap64 (x1 - (wrap64 (1 + (((rd_T41 x0 x5).f1).length : Int))))) x5 0) else (none)) else (none))
def salchowref10_room.l1 : Nat → List (S41) → Int → Int → Int → Option (Int)
 | 0, _, _, _, _ => none
 | k + 1, x0, x1, x5, x6 => if 0 ≤ x5 then (if x5 < (x0.length : Int) then (if x6 < (((rd_T41 x0 x5).f1).length : Int) then (if 0 ≤ x6 then (if (((rd_T46 ((rd_T41 x0 x5).f1) x6).f1).size : Int) > 200 then (some (-1)) else (salchowref10_room.l1 k x0 x1 x5 (wrap64 (x6 + 1)))) else (none)) else ((salchowref10_room.f k ((rd_T41 x0 x5).f3) x1).bind fun t571 => (salchowref10_room.l0 k x0 t571 (wrap64 (x5 + 1))))) else (none)) else (none)
def salchowref10_room.f : Nat → List (S41) → Int → Option (Int)
 | 0, _, _ => none
 | k + 1, l0, a1 => salchowref10_room.l0 k l0 a1 0
end
theorem salchowref10_room.mono_l : ∀ k, (∀ y0 y1, LeO (salchowref10_room.f k y0 y1) (salchowref10_room.f (k + 1) y0 y1)) ∧ (∀ y0 y1 y2, LeO (salchowref10_room.l0 k y0 y1 y2) (salchowref10_room.l0 (k + 1) y0 y1 y2)) ∧ (∀ y0 y1 y2 y3, LeO (salchowref10_room.j1 k y0 y1 y2 y3) (salchowref10_room.j1 (k + 1) y0 y1 y2 y3)) ∧ (∀ y0 y1 y2 y3, LeO (salchowref10_room.j2 k y0 y1 y2 y3) (salchowref10_room.j2 (k + 1) y0 y1 y2 y3)) ∧ (∀ y0 y1 y2 y3, LeO (salchowref10_room.l1 k y0 y1 y2 y3) (salchowref10_room.l1 (k + 1) y0 y1 y2 y3))
 | 0 => ⟨fun _ _ r h => by simp [salchowref10_room.f] at h, fun _ _ _ r h => by simp [salchowref10_room.l0] at h, fun _ _ _ _ r h => by simp [salchowref10_room.j1] at h, fun _ _ _ _ r h => by simp [salchowref10_room.j2] at h, fun _ _ _ _ r h => by simp [salchowref10_room.l1] at h⟩
 | k + 1 => by
  obtain ⟨ih0, ih1, ih2, ih3, ih4⟩ := salchowref10_room.mono_l k
  refine ⟨?_, ?_, ?_, ?_, ?_⟩
  ·
   intro y0 y1
   unfold salchowref10_room.f
   repeat' first
   | (with_reducible exact LeO.refl _)
   | exact ih0 _ _
   | exact ih1 _ _ _
   | exact ih2 _ _ _ _
   | exact ih3 _ _ _ _
   | exact ih4 _ _ _ _
   | exact LeO.none _
   | refine LeO.ite ?_ ?_
   | refine LeO.bind ?_ (fun _ => ?_)
  ·
   intro y0 y1 y2
   unfold salchowref10_room.l0
   repeat' first
   | (with_reducible exact LeO.refl _)
   | exact ih0 _ _
   | exact ih1 _ _ _
   | exact ih2 _ _ _ _
   | exact ih3 _ _ _ _
   | exact ih4 _ _ _ _
   | exact LeO.none _
   | refine LeO.ite ?_ ?_
   | refine LeO.bind ?_ (fun _ => ?_)
  ·
   intro y0 y1 y2 y3
   unfold salchowref10_room.j1
   repeat' first
   | (with_reducible exact LeO.refl _)
   | exact ih0 _ _
   | exact ih1 _ _ _
   | exact ih2 _ _ _ _
   | exact ih3 _ _ _ _
   | exact ih4 _ _ _ _
   | exact LeO.none _
   | refine LeO.ite ?_ ?_
   | refine LeO.bind ?_ (fun _ => ?_)
  ·
   intro y0 y1 y2 y3
   unfold salchowref10_room.j2
   repeat' first
   | (with_reducible exact LeO.refl _)
   | exact ih0 _ _
   | exact ih1 _ _ _
   | exact ih2 _ _ _ _
   | exact ih3 _ _ _ _
   | exact ih4 _ _ _ _
   | exact LeO.none _
   | refine LeO.ite ?_ ?_
   | refine LeO.bind ?_ (fun _ => ?_)
  ·
   intro y0 y1 y2 y3
   unfold salchowref10_room.l1
   repeat' first
   | (with_reducible exact LeO.refl _)
   | exact ih0 _ _
   | exact ih1 _ _ _
   | exact ih2 _ _ _ _
   | exact ih3 _ _ _ _
   | exact ih4 _ _ _ _
   | exact LeO.none _
   | refine LeO.ite ?_ ?_
   | refine LeO.bind ?_ (fun _ => ?_)
theorem salchowref10_room.mono : ∀ a0 a1 k, LeO (salchowref10_room.f k a0 a1) (salchowref10_room.f (k + 1) a0 a1) := by
 intro a0 a1 k
 obtain ⟨ih0, ih1, ih2, ih3, ih4⟩ := salchowref10_room.mono_l k
 exact ih0 a0 a1
set_option maxHeartbeats 8000000 in
set_option maxRecDepth 100000 in
theorem salchowref10_room.calls (k : Nat) : ∀ (A0 : Option Addr) (c0 : Nat) (l0 : List (S41)) (a1 : Int) (r : Int) (w : World) (hr0 : Kd.C k41 w A0 l0.length l0) (hc0 : l0.length ≤ c0) (h : salchowref10_room.f k l0 a1 = some r),
  Calls Tryd.prog 72 #[.slice A0 l0.length c0, .int .i64 a1] w fun e w' => e = .returned (.int .i64 r) ∧ Drawn0 w w' := by
 induction k using Nat.strongRecOn with
 | _ k ih =>
 intro A0 c0 l0 a1 r w hr0 hc0 h
 cases k with
 | zero => exact absurd h (by simp [salchowref10_room.f])
 | succ k =>
 simp only [salchowref10_room.f] at h
 have HR0 := Aside0.mk hr0
 have HC0 := Aside0.mk hc0
 clear hr0 hc0
 have H : (salchowref10_room.l0 k l0 a1 0) = some r := h
 clear h
 have H' := Aside0.mk H
 clear H
 go_enter Tryd.func72, Tryd.ntmps72
 go_wp2
 go_loopg [1, 5] k (fun kq v1 v5 w' => ∃ (x1_1 : Int) (x5_1 : Int), v1 = .int .i64 x1_1 ∧ v5 = .int .i64 x5_1 ∧ Aside0 (salchowref10_room.l0 kq l0 x1_1 x5_1 = some r) ∧ Aside0 (kq ≤ k) ∧ Drawn0 w w')
 case atStart => exact ⟨(a1), (0), sr_, sr_, H', ⟨Nat.le_refl _⟩, by repeat (first | exact Drawn0.refl _ | apply Drawn0.step)⟩
 case round =>
  clear H'
  try clear p2
  obtain ⟨x1_1, x5_1, rfl, rfl, HA, HK1, ⟨m1, rfl⟩⟩ := hrel
  cases gk with
  | zero => exact absurd HA.out (by simp [salchowref10_room.l0])
  | succ k1 =>
   have H := HA.out
   clear HA
   simp only [salchowref10_room.l0] at H
   have HC3 := Aside0.mk H
   clear H
   go_upto_region 2 with (fail)
   go_cut [14] (fun v14 wc => ∃ (kq : Nat) (x14_2 : Bool), v14 = .bool x14_2 ∧ Aside0 (salchowref10_room.j1 kq l0 x1_1 x5_1 x14_2 = some r) ∧ Aside0 (kq ≤ k1) ∧ Drawn0 w wc)
   case first =>
    have H := HC3.out
    clear HC3
    by_cases c4 : x5_1 < (l0.length : Int)
    ·
     rw [if_pos c4] at H
     have c4b0 := decide_eq_true c4
     clear c4
     (first | rw [c4b0] | (simp only [i64_w, i32_w]; rw [c4b0]) | skip)
     have H' := Aside0.mk H
     clear H
     go_wp2
     go_meet
     case rel => exact ⟨_, (decide (x1_1 ≥ 0)), sr_, H', ⟨by have := HK1.out; first | omega | exact Nat.le_refl _⟩, by repeat (first | exact Drawn0.refl _ | apply Drawn0.step)⟩
    ·
     rw [if_neg c4] at H
     have c4b0 := decide_eq_false c4
     clear c4
     (first | rw [c4b0] | (simp only [i64_w, i32_w]; rw [c4b0]) | skip)
     have H' := Aside0.mk H
     clear H
     go_wp2
     go_meet
     case rel => exact ⟨_, (false), sr_, H', ⟨by have := HK1.out; first | omega | exact Nat.le_refl _⟩, by repeat (first | exact Drawn0.refl _ | apply Drawn0.step)⟩
   case rest =>
    clear HC3
    try clear p2
    try clear c4
    try clear c4b0
    try clear p2
    obtain ⟨kq, x14_2, rfl, HA, HJ2, ⟨mc2, rfl⟩⟩ := hcut
    cases kq with
    | zero => exact absurd HA.out (by simp [salchowref10_room.j1])
    | succ kj2 =>
     have H := HA.out
     clear HA
     simp only [salchowref10_room.j1] at H
     by_cases c5 : x14_2 = true
     ·
      subst c5
      have H1 : (if 0 ≤ x5_1 then (if x5_1 < (l0.length : Int) then (if (((rd_T41 l0 x5_1).f1).length : Int) > (wrap64 (x1_1 - 1)) then (salchowref10_room.j2 kj2 l0 x1_1 x5_1 true) else (salchowref10_room.j2 kj2 l0 x1_1 x5_1 (decide ((((rd_T41 l0 x5_1).f0).size : Int) > 200)))) else (none)) else (none)) = some r := by rw [if_pos rfl] at H; exact H
      clear H
      have H := H1
      clear H1
      have HC6 := Aside0.mk H
      clear H
      go_upto_region 4 with (fail)
      go_cut [34] (fun v34 wc => ∃ (kq : Nat) (x34_5 : Bool), v34 = .bool x34_5 ∧ Aside0 (salchowref10_room.j2 kq l0 x1_1 x5_1 x34_5 = some r) ∧ Aside0 (kq ≤ kj2) ∧ Drawn0 w wc)
      case first =>
       have H := HC6.out
       clear HC6
       by_cases c7 : 0 ≤ x5_1
       ·
        rw [if_pos c7] at H
        have c7b0 := decide_eq_true c7
        clear c7
        (first | rw [c7b0] | (simp only [i64_w, i32_w]; rw [c7b0]) | skip)
        by_cases c8 : x5_1 < (l0.length : Int)
        ·
         rw [if_pos c8] at H
         have c8b0 := decide_eq_true c8
         clear c8
         by_cases c9 : (((rd_T41 l0 x5_1).f1).length : Int) > (wrap64 (x1_1 - 1))
         ·
          rw [if_pos c9] at H
          have c9b0 := decide_eq_true c9
          clear c9
          have H' := Aside0.mk H
          clear H
          have p564 : 0 ≤ (x5_1 : Int) := dt_
          have q564 : x5_1 < (l0.length : Int) := dt_
          obtain ⟨ad564, A564_1, c564_1, A564_3, c564_3, e564, hx564_0, hx564_1, hx564_2, hx564_3, hx564_4, hl564_1, hi564_1, hl564_3, hi564_3⟩ := at_T41 HR0.out x5_1 p564 q564
          cases e564
          have HR564_1 := Aside0.mk hi564_1
          have HC564_1 := Aside0.mk hl564_1
          clear hi564_1 hl564_1
          have HR564_3 := Aside0.mk hi564_3
          have HC564_3 := Aside0.mk hl564_3
          clear hi564_3 hl564_3
          replace p564 := eq_true p564
          replace q564 := eq_true q564
          go_wp2
          go_meet
          case rel => exact ⟨_, (true), sr_, H', ⟨by have := HK1.out; have := HJ2.out; first | omega | exact Nat.le_refl _⟩, by repeat (first | exact Drawn0.refl _ | apply Drawn0.step)⟩
         ·
          rw [if_neg c9] at H
          have c9b0 := decide_eq_false c9
          clear c9
          have H' := Aside0.mk H
          clear H
          have p564 : 0 ≤ (x5_1 : Int) := dt_
          have q564 : x5_1 < (l0.length : Int) := dt_
          obtain ⟨ad564, A564_1, c564_1, A564_3, c564_3, e564, hx564_0, hx564_1, hx564_2, hx564_3, hx564_4, hl564_1, hi564_1, hl564_3, hi564_3⟩ := at_T41 HR0.out x5_1 p564 q564
          cases e564
          have HR564_1 := Aside0.mk hi564_1
          have HC564_1 := Aside0.mk hl564_1
          clear hi564_1 hl564_1
          have HR564_3 := Aside0.mk hi564_3
          have HC564_3 := Aside0.mk hl564_3
          clear hi564_3 hl564_3
          replace p564 := eq_true p564
          replace q564 := eq_true q564
          have p565 : 0 ≤ (x5_1 : Int) := dt_
          have q565 : x5_1 < (l0.length : Int) := dt_
          obtain ⟨ad565, A565_1, c565_1, A565_3, c565_3, e565, hx565_0, hx565_1, hx565_2, hx565_3, hx565_4, hl565_1, hi565_1, hl565_3, hi565_3⟩ := at_T41 HR0.out x5_1 p565 q565
          obtain rfl : ad564 = ad565 := (by injection e565)
          have HR565_1 := Aside0.mk hi565_1
          have HC565_1 := Aside0.mk hl565_1
          clear hi565_1 hl565_1
          have HR565_3 := Aside0.mk hi565_3
          have HC565_3 := Aside0.mk hl565_3
          clear hi565_3 hl565_3
          replace p565 := eq_true p565
          replace q565 := eq_true q565
          have ea_ := Option.some.inj (hx564_1.symm.trans hx565_1)
          injection ea_ with ea_ en_ ec_
          subst ea_
          subst ec_
          clear en_
          have ea_ := Option.some.inj (hx564_3.symm.trans hx565_3)
          injection ea_ with ea_ en_ ec_
          subst ea_
          subst ec_
          clear en_
          go_wp2
          go_meet
          case rel => exact ⟨_, (decide ((((rd_T41 l0 x5_1).f0).size : Int) > 200)), sr_, H', ⟨by have := HK1.out; have := HJ2.out; first | omega | exact Nat.le_refl _⟩, by repeat (first | exact Drawn0.refl _ | apply Drawn0.step)⟩
        ·
         rw [if_neg c8] at H
         exact absurd H (by simp)
       ·
        rw [if_neg c7] at H
        exact absurd H (by simp)
      case rest =>
       clear HC6
       try clear c2
       try clear p2
       try clear c4
       try clear c4b0
       try clear c5
       try clear p5
       try clear q5
       try clear hx5
       try clear p6
       try clear c7
       try clear c7b0
       try clear c8
       try clear c8b0
       try clear c9
       try clear c9b0
       try clear hx564_0
       try clear hx564_1
       try clear hx564_2
       try clear hx564_3
       try clear hx564_4
       try clear hx565_0
       try clear hx565_1
       try clear hx565_2
       try clear hx565_3
       try clear hx565_4
       try clear p2
       try clear p564
       try clear p565
       try clear q564
       try clear q565
       obtain ⟨kq, x34_5, rfl, HA, HJ5, ⟨mc5, rfl⟩⟩ := hcut
       cases kq with
       | zero => exact absurd HA.out (by simp [salchowref10_room.j2])
       | succ kj5 =>
        have H := HA.out
        clear HA
        simp only [salchowref10_room.j2] at H
        by_cases c10 : x34_5 = true
        ·
         subst c10
         have H1 : (some (-1)) = some r := by rw [if_pos rfl] at H; exact H
         clear H
         have H := H1
         clear H1
         obtain rfl := Option.some.inj H
         go_wp2
         go_ret
         exact ⟨by first | rfl | (simp; done) | (simp [*]; done) | (simp <;> rfl), by repeat (first | exact Drawn0.refl _ | apply Drawn0.step)⟩
        ·
         replace c10 := Bool.eq_false_iff.mpr c10
         subst c10
         have H1 : (if 0 ≤ x5_1 then (if x5_1 < (l0.length : Int) then (salchowref10_room.l1 kj5 l0 (wrap64 (x1_1 - (wrap64 (1 + (((rd_T41 l0 x5_1).f1).length : Int))))) x5_1 0) else (none)) else (none)) = some r := by rw [if_neg (show ¬ (false = true) by decide)] at H; exact H
         clear H
         have H := H1
         clear H1
         by_cases c11 : 0 ≤ x5_1
         ·
          rw [if_pos c11] at H
          have c11b0 := decide_eq_true c11
          clear c11
          by_cases c12 : x5_1 < (l0.length : Int)
          ·
           rw [if_pos c12] at H
           have c12b0 := decide_eq_true c12
           clear c12
           have H' := Aside0.mk H
           clear H
           have p566 : 0 ≤ (x5_1 : Int) := dt_
           have q566 : x5_1 < (l0.length : Int) := dt_
           obtain ⟨ad566, A566_1, c566_1, A566_3, c566_3, e566, hx566_0, hx566_1, hx566_2, hx566_3, hx566_4, hl566_1, hi566_1, hl566_3, hi566_3⟩ := at_T41 HR0.out x5_1 p566 q566
           cases e566
           have HR566_1 := Aside0.mk hi566_1
           have HC566_1 := Aside0.mk hl566_1
           clear hi566_1 hl566_1
           have HR566_3 := Aside0.mk hi566_3
           have HC566_3 := Aside0.mk hl566_3
           clear hi566_3 hl566_3
           replace p566 := eq_true p566
           replace q566 := eq_true q566
           go_wp2
           go_loopg [6] kj5 (fun kq v6 w' => ∃ (x6_4 : Int), v6 = .int .i64 x6_4 ∧ Aside0 (salchowref10_room.l1 kq l0 (wrap64 (x1_1 - (wrap64 (1 + (((rd_T41 l0 x5_1).f1).length : Int))))) x5_1 x6_4 = some r) ∧ Aside0 (kq ≤ kj5) ∧ Drawn0 w w')
           case atStart => exact ⟨(0), sr_, H', ⟨Nat.le_refl _⟩, by repeat (first | exact Drawn0.refl _ | apply Drawn0.step)⟩
           case round =>
            clear H'
            try clear c1
            try clear c2
            try clear p2
            try clear c4
            try clear c4b0
            try clear c5
            try clear p5
            try clear q5
            try clear hx5
            try clear p6
            try clear c7
            try clear c7b0
            try clear c8
            try clear c8b0
            try clear c9
            try clear c9b0
            try clear c10
            try clear c11
            try clear c11b0
            try clear c12
            try clear c12b0
            try clear hx564_0
            try clear hx564_1
            try clear hx564_2
            try clear hx564_3
            try clear hx564_4
            try clear hx565_0
            try clear hx565_1
            try clear hx565_2
            try clear hx565_3
            try clear hx565_4
            try clear hx566_0
            try clear hx566_1
            try clear hx566_2
            try clear hx566_3
            try clear hx566_4
            try clear p2
            try clear p5
            try clear p564
            try clear p565
            try clear p566
            try clear p6
            try clear q5
            try clear q564
            try clear q565
            try clear q566
            obtain ⟨x6_4, rfl, HA, HK4, ⟨m4, rfl⟩⟩ := hrel
            cases gk with
            | zero => exact absurd HA.out (by simp [salchowref10_room.l1])
            | succ k4 =>
             have H := HA.out
             clear HA
             simp only [salchowref10_room.l1] at H
             by_cases c13 : 0 ≤ x5_1
             ·
              rw [if_pos c13] at H
              have c13b0 := decide_eq_true c13
              clear c13
              by_cases c14 : x5_1 < (l0.length : Int)
              ·
               rw [if_pos c14] at H
               have c14b0 := decide_eq_true c14
               clear c14
               by_cases c15 : x6_4 < (((rd_T41 l0 x5_1).f1).length : Int)
               ·
                rw [if_pos c15] at H
                have c15b0 := decide_eq_true c15
                clear c15
                by_cases c16 : 0 ≤ x6_4
                ·
                 rw [if_pos c16] at H
                 have c16b0 := decide_eq_true c16
                 clear c16
                 by_cases c17 : (((rd_T46 ((rd_T41 l0 x5_1).f1) x6_4).f1).size : Int) > 200
                 ·
                  rw [if_pos c17] at H
                  have c17b0 := decide_eq_true c17
                  have c17b1 : decide (200 < ((rd_T46 ((rd_T41 l0 x5_1).f1) x6_4).f1).size) = true := decide_eq_true (by omega)
                  clear c17
                  obtain rfl := Option.some.inj H
                  have p567 : 0 ≤ (x5_1 : Int) := dt_
                  have q567 : x5_1 < (l0.length : Int) := dt_
                  obtain ⟨ad567, A567_1, c567_1, A567_3, c567_3, e567, hx567_0, hx567_1, hx567_2, hx567_3, hx567_4, hl567_1, hi567_1, hl567_3, hi567_3⟩ := at_T41 HR0.out x5_1 p567 q567
                  obtain rfl : ad566 = ad567 := (by injection e567)
                  have HR567_1 := Aside0.mk hi567_1
                  have HC567_1 := Aside0.mk hl567_1
                  clear hi567_1 hl567_1
                  have HR567_3 := Aside0.mk hi567_3
                  have HC567_3 := Aside0.mk hl567_3
                  clear hi567_3 hl567_3
                  replace p567 := eq_true p567
                  replace q567 := eq_true q567
                  have p568 : 0 ≤ (x5_1 : Int) := dt_
                  have q568 : x5_1 < (l0.length : Int) := dt_
                  obtain ⟨ad568, A568_1, c568_1, A568_3, c568_3, e568, hx568_0, hx568_1, hx568_2, hx568_3, hx568_4, hl568_1, hi568_1, hl568_3, hi568_3⟩ := at_T41 HR0.out x5_1 p568 q568
                  obtain rfl : ad566 = ad568 := (by injection e568)
                  have HR568_1 := Aside0.mk hi568_1
                  have HC568_1 := Aside0.mk hl568_1
                  clear hi568_1 hl568_1
                  have HR568_3 := Aside0.mk hi568_3
                  have HC568_3 := Aside0.mk hl568_3
                  clear hi568_3 hl568_3
                  replace p568 := eq_true p568
                  replace q568 := eq_true q568
                  have ea_ := Option.some.inj (hx567_1.symm.trans hx568_1)
                  injection ea_ with ea_ en_ ec_
                  subst ea_
                  subst ec_
                  clear en_
                  have ea_ := Option.some.inj (hx567_3.symm.trans hx568_3)
                  injection ea_ with ea_ en_ ec_
                  subst ea_
                  subst ec_
                  clear en_
                  have p569 : 0 ≤ (x6_4 : Int) := dt_
                  have q569 : x6_4 < (((rd_T41 l0 x5_1).f1).length : Int) := dt_
                  obtain ⟨ad569, e569, hx569_0, hx569_1, hx569_2, hx569_3⟩ := at_T46 HR568_1.out x6_4 p569 q569
                  cases e569
                  replace p569 := eq_true p569
                  replace q569 := eq_true q569
                  go_wp2
                  go_ret
                  exact ⟨by first | rfl | (simp; done) | (simp [*]; done) | (simp <;> rfl), by repeat (first | exact Drawn0.refl _ | apply Drawn0.step)⟩
                 ·
                  rw [if_neg c17] at H
                  have c17b0 := decide_eq_false c17
                  have c17b1 : decide (200 < ((rd_T46 ((rd_T41 l0 x5_1).f1) x6_4).f1).size) = false := decide_eq_false (by omega)
                  clear c17
                  have H' := Aside0.mk H
                  clear H
                  have p567 : 0 ≤ (x5_1 : Int) := dt_
                  have q567 : x5_1 < (l0.length : Int) := dt_
                  obtain ⟨ad567, A567_1, c567_1, A567_3, c567_3, e567, hx567_0, hx567_1, hx567_2, hx567_3, hx567_4, hl567_1, hi567_1, hl567_3, hi567_3⟩ := at_T41 HR0.out x5_1 p567 q567
                  obtain rfl : ad566 = ad567 := (by injection e567)
                  have HR567_1 := Aside0.mk hi567_1
                  have HC567_1 := Aside0.mk hl567_1
                  clear hi567_1 hl567_1
                  have HR567_3 := Aside0.mk hi567_3
                  have HC567_3 := Aside0.mk hl567_3
                  clear hi567_3 hl567_3
                  replace p567 := eq_true p567
                  replace q567 := eq_true q567
                  have p568 : 0 ≤ (x5_1 : Int) := dt_
                  have q568 : x5_1 < (l0.length : Int) := dt_
                  obtain ⟨ad568, A568_1, c568_1, A568_3, c568_3, e568, hx568_0, hx568_1, hx568_2, hx568_3, hx568_4, hl568_1, hi568_1, hl568_3, hi568_3⟩ := at_T41 HR0.out x5_1 p568 q568
                  obtain rfl : ad566 = ad568 := (by injection e568)
                  have HR568_1 := Aside0.mk hi568_1
                  have HC568_1 := Aside0.mk hl568_1
                  clear hi568_1 hl568_1
                  have HR568_3 := Aside0.mk hi568_3
                  have HC568_3 := Aside0.mk hl568_3
                  clear hi568_3 hl568_3
                  replace p568 := eq_true p568
                  replace q568 := eq_true q568
                  have ea_ := Option.some.inj (hx567_1.symm.trans hx568_1)
                  injection ea_ with ea_ en_ ec_
                  subst ea_
                  subst ec_
                  clear en_
                  have ea_ := Option.some.inj (hx567_3.symm.trans hx568_3)
                  injection ea_ with ea_ en_ ec_
                  subst ea_
                  subst ec_
                  clear en_
                  have p569 : 0 ≤ (x6_4 : Int) := dt_
                  have q569 : x6_4 < (((rd_T41 l0 x5_1).f1).length : Int) := dt_
                  obtain ⟨ad569, e569, hx569_0, hx569_1, hx569_2, hx569_3⟩ := at_T46 HR568_1.out x6_4 p569 q569
                  cases e569
                  replace p569 := eq_true p569
                  replace q569 := eq_true q569
                  go_wp2
                  go_roundg k4
                  case measure => have := HK1.out; have := HJ2.out; have := HJ5.out; have := HK4.out; omega
                  case rel => exact ⟨(wrap64 (x6_4 + 1)), sr_, H', ⟨by have := HK1.out; have := HJ2.out; have := HJ5.out; have := HK4.out; omega⟩, by repeat (first | exact Drawn0.refl _ | apply Drawn0.step)⟩
                ·
                 rw [if_neg c16] at H
                 exact absurd H (by simp)
               ·
                rw [if_neg c15] at H
                have c15b0 := decide_eq_false c15
                clear c15
                replace H := Option.bind_eq_some_iff.mp H
                obtain ⟨t571, A180, H⟩ := H
                (try dsimp only at H)
                have A18 := Aside0.mk A180
                clear A180
                have H' := Aside0.mk H
                clear H
                have p567 : 0 ≤ (x5_1 : Int) := dt_
                have q567 : x5_1 < (l0.length : Int) := dt_
                obtain ⟨ad567, A567_1, c567_1, A567_3, c567_3, e567, hx567_0, hx567_1, hx567_2, hx567_3, hx567_4, hl567_1, hi567_1, hl567_3, hi567_3⟩ := at_T41 HR0.out x5_1 p567 q567
                obtain rfl : ad566 = ad567 := (by injection e567)
                have HR567_1 := Aside0.mk hi567_1
                have HC567_1 := Aside0.mk hl567_1
                clear hi567_1 hl567_1
                have HR567_3 := Aside0.mk hi567_3
                have HC567_3 := Aside0.mk hl567_3
                clear hi567_3 hl567_3
                replace p567 := eq_true p567
                replace q567 := eq_true q567
                have p570 : 0 ≤ (x5_1 : Int) := dt_
                have q570 : x5_1 < (l0.length : Int) := dt_
                obtain ⟨ad570, A570_1, c570_1, A570_3, c570_3, e570, hx570_0, hx570_1, hx570_2, hx570_3, hx570_4, hl570_1, hi570_1, hl570_3, hi570_3⟩ := at_T41 HR0.out x5_1 p570 q570
                obtain rfl : ad566 = ad570 := (by injection e570)
                have HR570_1 := Aside0.mk hi570_1
                have HC570_1 := Aside0.mk hl570_1
                clear hi570_1 hl570_1
                have HR570_3 := Aside0.mk hi570_3
                have HC570_3 := Aside0.mk hl570_3
                clear hi570_3 hl570_3
                replace p570 := eq_true p570
                replace q570 := eq_true q570
                have ea_ := Option.some.inj (hx567_1.symm.trans hx570_1)
                injection ea_ with ea_ en_ ec_
                subst ea_
                subst ec_
                clear en_
                have ea_ := Option.some.inj (hx567_3.symm.trans hx570_3)
                injection ea_ with ea_ en_ ec_
                subst ea_
                subst ec_
                clear en_
                go_wp2_with (first | ((with_reducible refine gate_callee (f := 72) rfl ?_); refine goesL_ (some 71) rfl rfl Tryd.func72 (by kernel_rfl) rfl #[.slice A567_3 ((rd_T41 l0 x5_1).f3).length c567_3, .int .i64 (wrap64 (x1_1 - (wrap64 (1 + (((rd_T41 l0 x5_1).f1).length : Int)))))] rfl ga_ ?_; (with_reducible refine (ih k4 (by have := HK1.out; have := HJ2.out; have := HJ5.out; have := HK4.out; omega) _ _ ((rd_T41 l0 x5_1).f3) (wrap64 (x1_1 - (wrap64 (1 + (((rd_T41 l0 x5_1).f1).length : Int))))) t571 _ ?side1 ?side2 A18.out).mono ?_); (case side1 => repeat (first | exact HR570_3.out | (with_reducible refine Kd.C_alloc ?_ _) | (with_reducible refine Kd.C_drewN ?_ _) | (with_reducible refine Kd.C_drew ?_))); (case side2 => exact HC570_3.out); rintro e w' ⟨rfl, ⟨nd, rfl⟩⟩; refine ⟨_, rfl, ?_⟩))
                go_roundg k4
                case measure => have := HK1.out; have := HJ2.out; have := HJ5.out; have := HK4.out; omega
                case rel => exact ⟨(t571), (wrap64 (x5_1 + 1)), sr_, sr_, H', ⟨by have := HK1.out; have := HJ2.out; have := HJ5.out; have := HK4.out; omega⟩, by repeat (first | exact Drawn0.refl _ | apply Drawn0.step)⟩
              ·
               rw [if_neg c14] at H
               exact absurd H (by simp)
             ·
              rw [if_neg c13] at H
              exact absurd H (by simp)
          ·
           rw [if_neg c12] at H
           exact absurd H (by simp)
         ·
          rw [if_neg c11] at H
          exact absurd H (by simp)
     ·
      replace c5 := Bool.eq_false_iff.mpr c5
      subst c5
      have H1 : (some x1_1) = some r := by rw [if_neg (show ¬ (false = true) by decide)] at H; exact H
      clear H
      have H := H1
      clear H1
      obtain rfl := Option.some.inj H
      go_wp2
      go_ret
      exact ⟨by first | rfl | (simp; done) | (simp [*]; done) | (simp <;> rfl), by repeat (first | exact Drawn0.refl _ | apply Drawn0.step)⟩
def salchowref10_Small.f (k : Nat) (l0 : List (S41)) (a1 : Int) : Option (Bool) := (salchowref10_room.f k l0 a1).bind fun t572 => (some (decide (t572 ≥ 0)))
theorem salchowref10_Small.mono : ∀ a0 a1 k, LeO (salchowref10_Small.f k a0 a1) (salchowref10_Small.f (k + 1) a0 a1) := by
 intro a0 a1 k
 unfold salchowref10_Small.f
 repeat' first
   | (with_reducible exact LeO.refl _)
   | exact salchowref10_room.mono _ _ _
   | exact LeO.none _
   | refine LeO.ite ?_ ?_
   | refine LeO.bind ?_ (fun _ => ?_)
set_option maxHeartbeats 8000000 in
set_option maxRecDepth 100000 in
theorem salchowref10_Small.calls (k : Nat) (A0 : Option Addr) (c0 : Nat) (l0 : List (S41)) (a1 : Int) (r : Bool) (w : World) (hr0 : Kd.C k41 w A0 l0.length l0) (hc0 : l0.length ≤ c0) (h : salchowref10_Small.f k l0 a1 = some r) :
  Calls Tryd.prog 45 #[.slice A0 l0.length c0, .int .i64 a1] w fun e w' => e = .returned (.bool r) ∧ Drawn0 w w' := by
 have HR0 := Aside0.mk hr0
 have HC0 := Aside0.mk hc0
 clear hr0 hc0
 have H : ((salchowref10_room.f k l0 a1).bind fun t572 => (some (decide (t572 ≥ 0)))) = some r := h
 clear h
 replace H := Option.bind_eq_some_iff.mp H
 obtain ⟨t572, A30, H⟩ := H
 (try dsimp only at H)
 have A3 := Aside0.mk A30
 clear A30
 obtain rfl := Option.some.inj H
 go_enter Tryd.func45, Tryd.ntmps45
 go_wp2_with (first | ((with_reducible refine gate_callee (f := 72) rfl ?_); refine goesL_ (some 7) rfl rfl Tryd.func72 (by kernel_rfl) rfl #[.slice A0 l0.length c0, .int .i64 a1] rfl ga_ ?_; (with_reducible refine (salchowref10_room.calls k _ _ l0 a1 t572 _ ?side1 ?side2 A3.out).mono ?_); (case side1 => repeat (first | exact HR0.out | (with_reducible refine Kd.C_alloc ?_ _) | (with_reducible refine Kd.C_drewN ?_ _) | (with_reducible refine Kd.C_drew ?_))); (case side2 => exact HC0.out); rintro e w' ⟨rfl, ⟨nd, rfl⟩⟩; refine ⟨_, rfl, ?_⟩))
 go_ret
 exact ⟨by first | rfl | (simp; done) | (simp [*]; done) | (simp <;> rfl), by repeat (first | exact Drawn0.refl _ | apply Drawn0.step)⟩
end Go.Proofs.YtkifdadhojbohaaDoor.Pr
namespace Go.Proofs.YtkifdadhojbohaaDoor.Pu
open Go.RowKit Go.Proofs.YtkifdadhojbohaaDoor Go.Proofs.YtkifdadhojbohaaDoor.Pr Go.Proofs.YtkifdadhojbohaaDoorW.PrintWords Go.Proofs.YtkifdadhojbohaaDoorW.PrintLast Go.Proofs.YtkifdadhojbohaaDoorW.PrintMore
/-- Small. -/
theorem room_f : ∀ l, ∀ m : Int, -1 ≤ m → m ≤ 1000000 → ∃ r, Ev (fun k => salchowref10_room.f k l m) r ∧ r ≤ m ∧ -1 ≤ r ∧ (0 ≤ r → (szL l : Int) + r = m ∧ AllC (txt 200) l) := by
  have loop : ∀ l, ∀ (A : List S41) (i : Nat) (m : Int), A.drop i = l → i ≤ A.length → -1 ≤ m → m ≤ 1000000 → (i : Int) + m ≤ 2000000 → ∃ r, Ev (fun k => salchowref10_room.l0 k A m (i : Int)) r ∧ r ≤ m ∧ -1 ≤ r ∧ (0 ≤ r → (szL l : Int) + r = m ∧ AllC (txt 200) l) := by
    refine indL ?_ ?_
    · intro A i m hA hi h1 h2 _
      have : A.length ≤ i := by
        have := congrArg List.length hA
        rw [List.length_drop] at this
        simp at this; omega
      refine ⟨m, ?_, by omega, h1, fun _ => ⟨by simp [szL], AllC.nil⟩⟩
      refine Ev.succ ?_
      simp only [salchowref10_room.l0]
      refine Ev.ifn (by omega) (Ev.succ ?_)
      simp only [salchowref10_room.j1]
      exact Ev.ifn (by simp) (Ev.now _)
    · intro c l ih1 ih2 A i m hA hi h1 h2 h3
      obtain ⟨a1, a2, a3⟩ := rd41_at hA
      have stop : ∀ b, b = false → Ev (fun k => salchowref10_room.j1 k A m (i : Int) b) m := by
        intro b hb
        subst hb
        refine Ev.succ ?_
        simp only [salchowref10_room.j1]
        exact Ev.ifn (by simp) (Ev.now _)
      have start : ∀ r, Ev (fun k => salchowref10_room.j1 k A m (i : Int) (decide (m ≥ 0))) r → Ev (fun k => salchowref10_room.l0 k A m (i : Int)) r := by
        intro r h
        refine Ev.succ ?_
        simp only [salchowref10_room.l0]
        exact Ev.ifp (by omega) h
      by_cases hm : m ≥ 0
      · have drop : Ev (fun k => salchowref10_room.j2 k A m (i : Int) true) (-1) := by
          refine Ev.succ ?_
          simp only [salchowref10_room.j2]
          exact Ev.ifp trivial (Ev.now _)
        have step : ∀ r, (if (c.f1.length : Int) > m - 1 then Ev (fun k => salchowref10_room.j2 k A m (i : Int) true) r else Ev (fun k => salchowref10_room.j2 k A m (i : Int) (decide ((c.f0.size : Int) > 200))) r) → Ev (fun k => salchowref10_room.l0 k A m (i : Int)) r := by
          intro r h
          refine start r ?_
          rw [decide_eq_true hm]
          refine Ev.succ ?_
          simp only [salchowref10_room.j1, a2]
          rw [wrap64_of (i := m - 1) (by omega) (by omega)]
          refine Ev.ifp trivial (Ev.ifp natO (Ev.ifp (by omega) ?_))
          by_cases hx : (c.f1.length : Int) > m - 1
          · rw [if_pos hx] at h; exact Ev.ifp hx h
          · rw [if_neg hx] at h; exact Ev.ifn hx h
        by_cases hx : (c.f1.length : Int) > m - 1
        · exact ⟨-1, step _ (by rw [if_pos hx]; exact drop), by omega, by omega, by omega⟩
        · by_cases hw : (c.f0.size : Int) > 200
          · exact ⟨-1, step _ (by rw [if_neg hx, decide_eq_true hw]; exact drop), by omega, by omega, by omega⟩
          · -- the atoms
            have inner : ∀ (d j : Nat) (ats : List S46), c.f1.drop j = ats → j ≤ c.f1.length → c.f1.length - j = d →
                ∃ r, Ev (fun k => salchowref10_room.l1 k A (m - 1 - c.f1.length) (i : Int) (j : Int)) r ∧ r ≤ m ∧ -1 ≤ r ∧ (0 ≤ r → (szL c.f3 : Int) + szL l + r = m - 1 - c.f1.length ∧ (∀ a ∈ ats, a.f1.size ≤ 200) ∧ AllC (txt 200) c.f3 ∧ AllC (txt 200) l) := by
              intro d
              induction d with
              | zero =>
                intro j ats hj hjl hd
                have e : ats = [] := by rw [← hj]; exact List.drop_eq_nil_of_le (by omega)
                subst e
                have hkids : ∃ r, Ev (fun k => salchowref10_room.f k c.f3 (m - 1 - c.f1.length)) r ∧ r ≤ m - 1 - c.f1.length ∧ -1 ≤ r ∧ (0 ≤ r → (szL c.f3 : Int) + r = m - 1 - c.f1.length ∧ AllC (txt 200) c.f3) := by
                  obtain ⟨r, g1, g2⟩ := ih1 c.f3 0 (m - 1 - c.f1.length) rfl (by omega) (by omega) (by omega) (by omega)
                  refine ⟨r, ?_, g2⟩
                  refine Ev.succ ?_
                  simp only [salchowref10_room.f]
                  exact g1
                obtain ⟨r1, g1, g2, g3, g4⟩ := hkids
                obtain ⟨r2, k1, k2, k3_, k4⟩ := ih2 A (i + 1) r1 a3 (by omega) g3 (by omega) (by omega)
                refine ⟨r2, ?_, by omega, k3_, fun hr => ?_⟩
                · refine Ev.succ ?_
                  simp only [salchowref10_room.l1, a2]
                  rw [wrap64_of (i := (i : Int) + 1) (by omega) (by omega)]
                  exact Ev.ifp natO (Ev.ifp (by omega) (Ev.ifn (by omega) (Ev.bind g1 k1)))
                · obtain ⟨u1, u2⟩ := k4 hr
                  obtain ⟨v1, v2⟩ := g4 (by omega)
                  exact ⟨by omega, by simp, v2, u2⟩
              | succ d ih =>
                intro j ats hj hjl hd
                cases ats with
                | nil =>
                  have := congrArg List.length hj
                  rw [List.length_drop] at this
                  simp at this; omega
                | cons a ats =>
                  obtain ⟨b1, b2, b3⟩ := rd_at hj
                  by_cases ha : (a.f1.size : Int) > 200
                  · refine ⟨-1, ?_, by omega, by omega, by omega⟩
                    refine Ev.succ ?_
                    simp only [salchowref10_room.l1, a2, b2]
                    exact Ev.ifp natO (Ev.ifp (by omega) (Ev.ifp (by omega) (Ev.ifp natO (Ev.ifp ha (Ev.now _)))))
                  · obtain ⟨r, g1, g2, g3, g4⟩ := ih (j + 1) ats b3 (by omega) (by omega)
                    refine ⟨r, ?_, g2, g3, fun hr => ?_⟩
                    · refine Ev.succ ?_
                      simp only [salchowref10_room.l1, a2, b2]
                      rw [wrap64_of (i := (j : Int) + 1) (by omega) (by omega)]
                      exact Ev.ifp natO (Ev.ifp (by omega) (Ev.ifp (by omega) (Ev.ifp natO (Ev.ifn ha g1))))
                    · obtain ⟨u1, u2, u3, u4⟩ := g4 hr
                      refine ⟨u1, ?_, u3, u4⟩
                      intro x hx
                      rcases List.mem_cons.1 hx with rfl | hx
                      · omega
                      · exact u2 x hx
            obtain ⟨r, g1, g2, g3, g4⟩ := inner c.f1.length 0 c.f1 rfl (by omega) (by omega)
            refine ⟨r, step _ ?_, g2, g3, fun hr => ?_⟩
            · rw [if_neg hx, decide_eq_false hw]
              refine Ev.succ ?_
              simp only [salchowref10_room.j2, a2]
              rw [wrap64_of (i := 1 + (c.f1.length : Int)) (by omega) (by omega), wrap64_of (by omega) (by omega)]
              rw [show m - (1 + (c.f1.length : Int)) = m - 1 - c.f1.length by omega]
              exact Ev.ifn (by simp) (Ev.ifp natO (Ev.ifp (by omega) g1))
            · obtain ⟨u1, u2, u3, u4⟩ := g4 hr
              refine ⟨?_, AllC.cons _ _ ⟨by omega, u2⟩ u3 u4⟩
              rw [szL]; omega
      · exact ⟨m, start _ (stop _ (decide_eq_false hm)), by omega, h1, by omega⟩
  intro l m h1 h2
  obtain ⟨r, g1, g2⟩ := loop l l 0 m rfl (by omega) h1 h2 (by omega)
  refine ⟨r, ?_, g2⟩
  refine Ev.succ ?_
  simp only [salchowref10_room.f]
  exact g1
theorem Small_f (l : List S41) (m : Nat) (hm : m ≤ 1000) : ∃ b, Ev (fun k => salchowref10_Small.f k l (m : Int)) b ∧ (b = true → szL l ≤ m ∧ AllC (txt 200) l) := by
  obtain ⟨r, g1, g2, g3, g4⟩ := room_f l m (by omega) (by omega)
  refine ⟨decide (r ≥ 0), ?_, fun h => ?_⟩
  · simp only [salchowref10_Small.f]
    exact Ev.bind g1 (Ev.now _)
  · have h0 : r ≥ 0 := of_decide_eq_true h
    obtain ⟨u1, u2⟩ := g4 h0
    exact ⟨by omega, u2⟩
theorem AllC.mono {P Q : S41 → Prop} (h : ∀ c, P c → Q c) {l : List S41} (hl : AllC P l) : AllC Q l := by
  induction hl with
  | nil => exact AllC.nil
  | cons c l hc _ _ ih1 ih2 => exact AllC.cons c l (h c hc) ih1 ih2
theorem txt_mono {n m : Nat} (h : n ≤ m) {l : List S41} (hl : AllC (txt n) l) : AllC (txt m) l :=
  hl.mono fun _ hc => ⟨Nat.le_trans hc.1 h, fun a ha => Nat.le_trans (hc.2 a ha) h⟩
/-- The tokens of possible entries are possible. -/
theorem toks_valid (n : Nat) (hn : 1 ≤ n) : ∀ l, formL l = true → AllC (txt n) l → ∀ t ∈ toksL l, validB t.f0 (lst t.f1) t.f2 = true ∧ t.f0 ≠ 5 ∧ t.f1.size ≤ n := by
  refine indL ?_ ?_
  · intro _ _ t ht
    rw [toksL] at ht; cases ht
  · intro c l h1 h2 hf hP t ht
    rw [formL] at hf
    simp only [Bool.and_eq_true] at hf
    obtain ⟨⟨⟨⟨f1, f2⟩, f3⟩, f4⟩, f5⟩ := hf
    cases hP with
    | cons _ _ hc hk hr =>
    have hsg : ∀ b : UInt8, kindOf b.toNat = 5 → validB (sgT b).f0 (lst (sgT b).f1) (sgT b).f2 = true ∧ (sgT b).f0 ≠ 5 ∧ (sgT b).f1.size ≤ n := by
      intro b hb
      refine ⟨?_, show (4 : Int) ≠ 5 by decide, hn⟩
      show validB 4 [b] 0 = true
      unfold validB
      simp [hb]
    rw [toksL] at ht
    rcases List.mem_append.1 ht with ht | ht
    · rcases List.mem_append.1 ht with ht | ht
      · rcases List.mem_cons.1 ht with rfl | ht
        · exact ⟨f1, by show (1 : Int) ≠ 5; decide, hc.1⟩
        · have := List.all_eq_true.1 f3 t ht
          unfold okA at this
          rw [Bool.and_eq_true] at this
          refine ⟨this.2, ?_, hc.2 t ht⟩
          intro h5
          have h := this.1
          simp [isA, h5] at h
      · by_cases hb : c.f2 = true
        · rw [if_pos hb] at ht
          rcases List.mem_append.1 ht with ht | ht
          · rcases List.mem_cons.1 ht with rfl | ht
            · exact hsg 123 (by decide)
            · exact h1 f4 hk t ht
          · rw [List.mem_singleton] at ht
            subst ht
            exact hsg 125 (by decide)
        · rw [if_neg hb, List.mem_singleton] at ht
          subst ht
          exact hsg 59 (by decide)
    · exact h2 f5 hr t ht
end Go.Proofs.YtkifdadhojbohaaDoor.Pu
