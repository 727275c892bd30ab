/- Joined out of the texts of this proof that bear the names PrE1 PrE2 PrF63 PrF36 PrF35 PrF39 PrF32 PuHa: what each shows stands over it there. -/
import Derived.Test.YtkifdadhojbohaaDoorYb1
import Derived.Test.YtkifdadhojbohaaDoorYc1
import Derived.Test.YtkifdadhojbohaaDoorYc2
set_option linter.unusedVariables false
set_option linter.unusedSimpArgs false
namespace Go.Proofs.YtkifdadhojbohaaDoor.Pr
open Go.Proofs.YtkifdadhojbohaaDoor
open Go.RowKit Go.Proofs.YtkifdadhojbohaaDoorW.PrintWords Go.Proofs.YtkifdadhojbohaaDoorW.PrintLast Go.Proofs.YtkifdadhojbohaaDoorW.PrintMore
attribute [local go_sem] max2_int min2_int max_two min_two max_three min_three max_four min_four   -- for this text's walks alone
set_option linter.unusedVariables false
set_option linter.unusedSimpArgs false
theorem eqA26 (d : Nat) (w : World) (x0 y0 : Int) (x1 y1 : Int) :
    (Op.equalIn (d + 2) 26 (.agg #[.int .i64 x0, .int .i64 x1]) (.agg #[.int .i64 y0, .int .i64 y1])).run Tryd.prog w = .ok (x0 == y0 && (x1 == y1)) w := by
  refine eqA_of Tryd.underlying26 (by kernel_rfl) ?_
  refine eqf_cons (by rfl) (by go_simp; rfl) (by go_simp; rfl) (by go_simp) ?_
  exact eqf_last (by rfl) (by go_simp; rfl) (by go_simp; rfl) (by go_simp)
end Go.Proofs.YtkifdadhojbohaaDoor.Pr
namespace Go.Proofs.YtkifdadhojbohaaDoor.Pr
open Go.Proofs.YtkifdadhojbohaaDoor
open Go.RowKit Go.Proofs.YtkifdadhojbohaaDoorW.PrintWords Go.Proofs.YtkifdadhojbohaaDoorW.PrintLast Go.Proofs.YtkifdadhojbohaaDoorW.PrintMore
attribute [local go_sem] max2_int min2_int max_two min_two max_three min_three max_four min_four   -- for this text's walks alone
set_option linter.unusedVariables false
set_option linter.unusedSimpArgs false
theorem eqA46 (d : Nat) (w : World) (x0 y0 : Int) (x1 y1 : ByteArray) (x2 y2 : Int) (x3 y3 : Int) :
    (Op.equalIn (d + 2) 46 (.agg #[.int .i64 x0, .string x1, .int .i64 x2, .int .i64 x3]) (.agg #[.int .i64 y0, .string y1, .int .i64 y2, .int .i64 y3])).run Tryd.prog w = .ok (x0 == y0 && (x1.toList == y1.toList && (x2 == y2 && (x3 == y3)))) w := by
  refine eqA_of Tryd.underlying46 (by kernel_rfl) ?_
  refine eqf_cons (by rfl) (by go_simp; rfl) (by go_simp; rfl) (by go_simp) ?_
  refine eqf_cons (by rfl) (by go_simp; rfl) (by go_simp; rfl) (by go_simp) ?_
  refine eqf_cons (by rfl) (by go_simp; rfl) (by go_simp; rfl) (by go_simp) ?_
  exact eqf_last (by rfl) (by go_simp; rfl) (by go_simp; rfl) (by go_simp)
end Go.Proofs.YtkifdadhojbohaaDoor.Pr
namespace Go.Proofs.YtkifdadhojbohaaDoor.Pr
open Go.Proofs.YtkifdadhojbohaaDoor
open Go.RowKit Go.Proofs.YtkifdadhojbohaaDoorW.PrintWords Go.Proofs.YtkifdadhojbohaaDoorW.PrintLast Go.Proofs.YtkifdadhojbohaaDoorW.PrintMore
attribute [local go_sem] max2_int min2_int max_two min_two max_three min_three max_four min_four   -- for this text's walks alone
set_option linter.unusedVariables false
set_option linter.unusedSimpArgs false
/-! ### lexer_isWord: function 63 -/
def lexer_isWord.l0 : Nat → ByteArray → Int → Int → Option (Bool)
  | 0, _, _, _ => none
  | k + 1, x0, x5, x6 => if x6 < x5 then (if 0 ≤ x6 then (if x6 < (x0.size : Int) then ((lexer_isRun.f (bt x0 x6)).bind fun t182 => (if t182 = true then (lexer_isWord.l0 k x0 x5 (wrap64 (x6 + 1))) else (some false))) else (none)) else (none)) else ((lexer_word.f k x0).bind fun t183 => (some (t183 == 0)))
def lexer_isWord.f (k : Nat) (a0 : ByteArray) : Option (Bool) := lexer_isWord.l0 k a0 (a0.size : Int) 0
theorem lexer_isWord.mono_l : ∀ k, (∀ y0 y1 y2, LeO (lexer_isWord.l0 k y0 y1 y2) (lexer_isWord.l0 (k + 1) y0 y1 y2))
  | 0 => fun _ _ _ r h => by simp [lexer_isWord.l0] at h
  | k + 1 => by
    have ih0 := lexer_isWord.mono_l k
    · intro y0 y1 y2
      unfold lexer_isWord.l0
      repeat' first
      | (with_reducible exact ih0 _ _ _)
      | (with_reducible exact lexer_word.mono _ _)
      | (with_reducible exact LeO.refl _)
      | (with_reducible exact LeO.none _)
      | (with_reducible refine LeO.ite ?_ ?_)
      | (with_reducible refine LeO.bind ?_ (fun _ => ?_))
      | exact ih0 _ _ _
      | exact lexer_word.mono _ _
      | exact LeO.none _
      | refine LeO.ite ?_ ?_
      | refine LeO.bind ?_ (fun _ => ?_)
theorem lexer_isWord.mono : ∀ a0 k, LeO (lexer_isWord.f k a0) (lexer_isWord.f (k + 1) a0) := by
  intro a0 k
  have ih0 := lexer_isWord.mono_l k
  unfold lexer_isWord.f
  repeat' first
      | (with_reducible exact ih0 _ _ _)
      | (with_reducible exact lexer_word.mono _ _)
      | (with_reducible exact LeO.refl _)
      | (with_reducible exact LeO.none _)
      | (with_reducible refine LeO.ite ?_ ?_)
      | (with_reducible refine LeO.bind ?_ (fun _ => ?_))
      | exact ih0 _ _ _
      | exact lexer_word.mono _ _
      | exact LeO.none _
      | refine LeO.ite ?_ ?_
      | refine LeO.bind ?_ (fun _ => ?_)
set_option maxHeartbeats 8000000 in
set_option maxRecDepth 100000 in
theorem lexer_isWord.calls (k : Nat) (a0 : ByteArray) (r : Bool) (w : World) (h : lexer_isWord.f k a0 = some r) :
    Calls Tryd.prog 63 #[.string a0] w fun e w' => e = .returned (.bool r) ∧ Below w.heap.size w w' := by
  have HB := Aside0.mk (Below.refl w.heap.size w)
  have H : (lexer_isWord.l0 k a0 (a0.size : Int) 0) = some r := h
  clear h
  have H' := Aside0.mk H
  clear H
  go_enter Tryd.func63, Tryd.ntmps63
  go_wp2
  go_loopg [6] k (fun kq v6 w' => ∃ (x6_1 : Int), v6 = .int .i64 x6_1 ∧ Aside0 (lexer_isWord.l0 kq a0 (a0.size : Int) x6_1 = some r) ∧ Aside0 (kq ≤ k) ∧ Aside0 (Below w.heap.size w w'))
  case atStart => exact ⟨(0), (by first | rfl | (simp; done) | (simp [*]; done) | (simp <;> rfl)), H', ⟨Nat.le_refl _⟩, ⟨bl_ HB.out⟩⟩
  case round =>
    clear H'
    obtain ⟨x6_1, rfl, HA, HK1, HB⟩ := hrel
    cases gk with
    | zero => exact absurd HA.out (by simp [lexer_isWord.l0])
    | succ k1 =>
      have H := HA.out
      clear HA
      simp only [lexer_isWord.l0] at H
      by_cases c2 : x6_1 < (a0.size : Int)
      · rw [if_pos c2] at H
        have c2b0 : decide (x6_1 < (a0.size : Int)) = true := decide_eq_true c2
        clear c2
        by_cases c3 : 0 ≤ x6_1
        · rw [if_pos c3] at H
          have c3b0 : decide (0 ≤ x6_1) = true := decide_eq_true c3
          clear c3
          by_cases c4 : x6_1 < (a0.size : Int)
          · rw [if_pos c4] at H
            have c4b0 : decide (x6_1 < (a0.size : Int)) = true := decide_eq_true c4
            clear c4
            replace H := Option.bind_eq_some_iff.mp H
            obtain ⟨t182, A60, H⟩ := H
            replace H : (if t182 = true then (lexer_isWord.l0 k1 a0 (a0.size : Int) (wrap64 (x6_1 + 1))) else (some false)) = some r := H
            have A6 := Aside0.mk A60
            clear A60
            by_cases c7 : t182 = true
            · subst c7
              have H1 : (lexer_isWord.l0 k1 a0 (a0.size : Int) (wrap64 (x6_1 + 1))) = some r := by rw [if_pos rfl] at H; exact H
              clear H
              have H := H1
              clear H1
              have H' := Aside0.mk H
              clear H
              have p5 : 0 ≤ (x6_1 : Int) := of_decide_eq_true (by first | (with_reducible assumption) | assumption)
              have q5 : x6_1 < (a0.size : Int) := of_decide_eq_true (by first | (with_reducible assumption) | assumption)
              have hx5 := bt_at a0 x6_1
              replace p5 := eq_true p5
              replace q5 := eq_true q5
              go_wp2_with (first | ((with_reducible refine gate_callee (f := 82) rfl ?_); refine goesL_ (some 12) rfl rfl Tryd.func82 (by kernel_rfl) rfl #[.int .u8 (bt a0 x6_1)] rfl (by (try simp only [List.map_toArray, List.map_cons, List.map_nil]); first | done | rfl | (simp only [List.length_drop, List.length_take]; rfl)) ?_; (with_reducible refine (lexer_isRun.calls (bt a0 x6_1) true _ A6.out).mono ?_); rintro e w8 ⟨rfl, hb⟩; refine ⟨_, rfl, ?_⟩; have n0_ := Aside0.mk (below_step (bl_ HB.out) hb); clear HB; have HB := n0_; clear n0_; (try clear hb); (try clear hb2); (try clear hk); (try clear hi)))
              go_roundg k1
              case measure => have := HK1.out; omega
              case rel => exact ⟨(wrap64 (x6_1 + 1)), (by first | rfl | (simp; done) | (simp [*]; done) | (simp <;> rfl)), H', ⟨by have := HK1.out; omega⟩, ⟨bl_ HB.out⟩⟩
            · replace c7 := Bool.eq_false_iff.mpr c7
              subst c7
              have H1 : (some false) = some r := by rw [if_neg (show ¬ (false = true) by decide)] at H; exact H
              clear H
              have H := H1
              clear H1
              obtain rfl := Option.some.inj H
              have p5 : 0 ≤ (x6_1 : Int) := of_decide_eq_true (by first | (with_reducible assumption) | assumption)
              have q5 : x6_1 < (a0.size : Int) := of_decide_eq_true (by first | (with_reducible assumption) | assumption)
              have hx5 := bt_at a0 x6_1
              replace p5 := eq_true p5
              replace q5 := eq_true q5
              go_wp2_with (first | ((with_reducible refine gate_callee (f := 82) rfl ?_); refine goesL_ (some 12) rfl rfl Tryd.func82 (by kernel_rfl) rfl #[.int .u8 (bt a0 x6_1)] rfl (by (try simp only [List.map_toArray, List.map_cons, List.map_nil]); first | done | rfl | (simp only [List.length_drop, List.length_take]; rfl)) ?_; (with_reducible refine (lexer_isRun.calls (bt a0 x6_1) false _ A6.out).mono ?_); rintro e w9 ⟨rfl, hb⟩; refine ⟨_, rfl, ?_⟩; have n0_ := Aside0.mk (below_step (bl_ HB.out) hb); clear HB; have HB := n0_; clear n0_; (try clear hb); (try clear hb2); (try clear hk); (try clear hi)))
              go_ret
              exact ⟨er_, bl_ HB.out⟩
          · rw [if_neg c4] at H
            exact absurd H (by simp)
        · rw [if_neg c3] at H
          exact absurd H (by simp)
      · rw [if_neg c2] at H
        have c2b0 : decide (x6_1 < (a0.size : Int)) = false := decide_eq_false c2
        clear c2
        replace H := Option.bind_eq_some_iff.mp H
        obtain ⟨t183, A100, H⟩ := H
        replace H : (some (t183 == 0)) = some r := H
        have A10 := Aside0.mk A100
        clear A100
        obtain rfl := Option.some.inj H
        go_wp2_with (first | ((with_reducible refine gate_callee (f := 91) rfl ?_); refine goesL_ (some 16) rfl rfl Tryd.func91 (by kernel_rfl) rfl #[.string a0] rfl (by (try simp only [List.map_toArray, List.map_cons, List.map_nil]); first | done | rfl | (simp only [List.length_drop, List.length_take]; rfl)) ?_; (with_reducible refine (lexer_word.calls k1 a0 t183 _ A10.out).mono ?_); rintro e w11 ⟨rfl, hb⟩; refine ⟨_, rfl, ?_⟩; have n0_ := Aside0.mk (below_step (bl_ HB.out) hb); clear HB; have HB := n0_; clear n0_; (try clear hb); (try clear hb2); (try clear hk); (try clear hi)))
        go_ret
        exact ⟨er_, bl_ HB.out⟩
end Go.Proofs.YtkifdadhojbohaaDoor.Pr
namespace Go.Proofs.YtkifdadhojbohaaDoor.Pr
open Go.Proofs.YtkifdadhojbohaaDoor
open Go.RowKit Go.Proofs.YtkifdadhojbohaaDoorW.PrintWords Go.Proofs.YtkifdadhojbohaaDoorW.PrintLast Go.Proofs.YtkifdadhojbohaaDoorW.PrintMore
attribute [local go_sem] max2_int min2_int max_two min_two max_three min_three max_four min_four   -- for this text's walks alone
set_option linter.unusedVariables false
set_option linter.unusedSimpArgs false
/-! ### lexer_Valid: function 36 -/
def lexer_Valid.j0 : Nat → Bool → Int → ByteArray → Int → Int → Option (Bool)
  | 0, _, _, _, _, _ => none
  | k + 1, x10, x185000, x185001, x185002, x185003 => if x10 = true then (some false) else (if x185000 = 1 then (if x185001.toList = ([] : List UInt8) then (some false) else ((lexer_isWord.f k x185001).bind fun t185 => (some t185))) else (if x185000 = 2 then (if x185001.toList = ([] : List UInt8) then (if 0 ≤ x185002 then (some (decide (x185002 ≤ 1000000000))) else (some false)) else (some false)) else (if x185000 = 3 then ((lexer_title.f k x185001).bind fun t186 => (some (t186 == 0))) else (if x185000 = 4 then (if (x185001.size : Int) = 1 then ((lexer_kinds.f).bind fun t187 => (if 0 < (x185001.size : Int) then (if 0 ≤ (bt x185001 0) then (if (bt x185001 0) < 256 then (some ((lexer_kinds.at_ (bt x185001 0)) == 5)) else (none)) else (none)) else (none))) else (some false)) else (if x185000 = 5 then (some (x185001.toList == ([] : List UInt8))) else (some false))))))
def lexer_Valid.f (k : Nat) (a0_0 : Int) (a0_1 : ByteArray) (a0_2 : Int) (a0_3 : Int) : Option (Bool) := if a0_0 = 2 then (lexer_Valid.j0 k false a0_0 a0_1 a0_2 a0_3) else (lexer_Valid.j0 k (a0_2 != 0) a0_0 a0_1 a0_2 a0_3)
theorem lexer_Valid.mono_l : ∀ k, (∀ y0 y1 y2 y3 y4, LeO (lexer_Valid.j0 k y0 y1 y2 y3 y4) (lexer_Valid.j0 (k + 1) y0 y1 y2 y3 y4))
  | 0 => fun _ _ _ _ _ r h => by simp [lexer_Valid.j0] at h
  | k + 1 => by
    have ih0 := lexer_Valid.mono_l k
    · intro y0 y1 y2 y3 y4
      unfold lexer_Valid.j0
      repeat' first
      | (with_reducible exact ih0 _ _ _ _ _)
      | (with_reducible exact lexer_isWord.mono _ _)
      | (with_reducible exact lexer_title.mono _ _)
      | (with_reducible exact LeO.refl _)
      | (with_reducible exact LeO.none _)
      | (with_reducible refine LeO.ite ?_ ?_)
      | (with_reducible refine LeO.bind ?_ (fun _ => ?_))
      | exact ih0 _ _ _ _ _
      | exact lexer_isWord.mono _ _
      | exact lexer_title.mono _ _
      | exact LeO.none _
      | refine LeO.ite ?_ ?_
      | refine LeO.bind ?_ (fun _ => ?_)
theorem lexer_Valid.mono : ∀ a0 a1 a2 a3 k, LeO (lexer_Valid.f k a0 a1 a2 a3) (lexer_Valid.f (k + 1) a0 a1 a2 a3) := by
  intro a0 a1 a2 a3 k
  have ih0 := lexer_Valid.mono_l k
  unfold lexer_Valid.f
  repeat' first
      | (with_reducible exact ih0 _ _ _ _ _)
      | (with_reducible exact lexer_isWord.mono _ _)
      | (with_reducible exact lexer_title.mono _ _)
      | (with_reducible exact LeO.refl _)
      | (with_reducible exact LeO.none _)
      | (with_reducible refine LeO.ite ?_ ?_)
      | (with_reducible refine LeO.bind ?_ (fun _ => ?_))
      | exact ih0 _ _ _ _ _
      | exact lexer_isWord.mono _ _
      | exact lexer_title.mono _ _
      | exact LeO.none _
      | refine LeO.ite ?_ ?_
      | refine LeO.bind ?_ (fun _ => ?_)
def lexer_Valid.T11 : Bool × List (List Nat × List Nat) := (true, [([], []), ([0], [0]), ([1], [1]), ([2], [2]), ([3], [3]), ([4, 4], [4]), ([4], [4]), ([6, 4], [4, 6]), ([7, 4], [4, 7]), ([5, 8, 4], [4, 5, 8]), ([9, 4], [4, 9]), ([4, 10], [4, 10]), ([11, 5, 0, 1, 2, 3, 4, 5, 6, 7, 8, 9, 10, 11], [11])])
def lexer_Valid.B11 : List Nat := [0, 1, 3, 7, 15, 31, 31, 95, 223, 511, 1023, 2047, 4095]
theorem lexer_Valid.tab11 : rtab .any (opsOf Tryd.f36 11) = lexer_Valid.T11 := by kernel_rfl
theorem lexer_Valid.bits11 : waitsOk lexer_Valid.T11.2 lexer_Valid.B11 = true := by kernel_rfl
set_option maxHeartbeats 8000000 in
set_option maxRecDepth 100000 in
theorem lexer_Valid.calls (k : Nat) (a0_0 : Int) (a0_1 : ByteArray) (a0_2 : Int) (a0_3 : Int) (r : Bool) (w : World) (h : lexer_Valid.f k a0_0 a0_1 a0_2 a0_3 = some r) :
    Calls Tryd.prog 36 #[.agg #[.int .i64 a0_0, .string a0_1, .int .i64 a0_2, .int .i64 a0_3]] w fun e w' => e = .returned (.bool r) ∧ Below w.heap.size w w' := by
  have hu46 := Tryd.underlying46
  have HB := Aside0.mk (Below.refl w.heap.size w)
  have H : (if a0_0 = 2 then (lexer_Valid.j0 k false a0_0 a0_1 a0_2 a0_3) else (lexer_Valid.j0 k (a0_2 != 0) a0_0 a0_1 a0_2 a0_3)) = some r := h
  clear h
  have HC2 := Aside0.mk H
  clear H
  go_enter Tryd.func36, Tryd.ntmps36
  go_upto_region 1 with (first | ((with_reducible refine gate_dst (N := 1) rfl ?_); refine box_event ?hg (N := 1) ?hd (cs := #[.int .i64 a0_0, .string a0_1, .int .i64 a0_2, .int .i64 a0_3]) (t := 46) ?hr ?_; (case hd => rfl); (case hg => rfl); (case hr => first | (go_simp; done) | (go_simp; rfl)); intro gb184 hg w3 hbox hb; have n0_ := Aside0.mk (below_step (bl_ HB.out) hb); have n1_ := Aside0.mk (hbox); have n2_ := Aside0.mk ((by rw [hg]; exact (below_size (bl_ HB.out)) : w.heap.size ≤ gb184)); have n3_ := Aside0.mk ((by rw [hg]; exact (below_size (bl_ HB.out)) : w.heap.size ≤ gb184)); clear HB; have HB := n0_; have BK184 := n1_; have GW184 := n2_; have GE184 := n3_; clear n0_ n1_ n2_ n3_; clear hb hbox hg))
  (try simp only [Act.put, List.setIfInBounds_toArray, List.set_cons_zero, List.set_cons_succ])
  go_cut [10] (fun v10 wc => ∃ (kq : Nat) (x10_1 : Bool), v10 = .bool x10_1 ∧ Aside0 (lexer_Valid.j0 kq x10_1 a0_0 a0_1 a0_2 a0_3 = some r) ∧ Aside0 (kq ≤ k) ∧ Aside0 (wc.heap[gb184]? = some (.cells #[.int .i64 a0_0, .string a0_1, .int .i64 a0_2, .int .i64 a0_3] 46 (0, 0))) ∧ Aside0 (Below w.heap.size w wc))
  case first =>
    have H := HC2.out
    clear HC2
    by_cases c4 : a0_0 = 2
    · rw [if_pos c4] at H
      have c4b0 : (a0_0 == 2) = true := beq_iff_eq.mpr c4
      have c4b1 : (a0_0 != 2) = false := bne_eq_false_iff_eq.mpr c4
      clear c4
      (first | rw [c4b0] | (simp only [i64_w, i32_w]; rw [c4b0]) | skip)
      have H' := Aside0.mk H
      clear H
      have hcz5_0 : w3.cell? ⟨gb184, 0, none⟩ = some (.int .i64 a0_0) := (blk_cell BK184.out 0).trans rfl
      have hcz5_1 : w3.cell? ⟨gb184, 1, none⟩ = some (.string a0_1) := (blk_cell BK184.out 1).trans rfl
      have hcz5_2 : w3.cell? ⟨gb184, 2, none⟩ = some (.int .i64 a0_2) := (blk_cell BK184.out 2).trans rfl
      have hcz5_3 : w3.cell? ⟨gb184, 3, none⟩ = some (.int .i64 a0_3) := (blk_cell BK184.out 3).trans rfl
      have hfz5_0 := blk_frozen BK184.out 0
      have hfz5_1 := blk_frozen BK184.out 1
      have hfz5_2 := blk_frozen BK184.out 2
      have hfz5_3 := blk_frozen BK184.out 3
      go_wp2
      go_meet
      case rel => exact ⟨_, (false), (by first | rfl | (simp; done) | (simp [*]; done) | (simp <;> rfl)), H', ⟨by first | omega | exact Nat.le_refl _⟩, ⟨by (with_reducible repeat (first | refine blk_drewN ?_ _ | refine blk_drew ?_ | refine blk_alloc ?_ _)); exact BK184.out⟩, ⟨bl1_ HB.out GE184.out⟩⟩
    · rw [if_neg c4] at H
      have c4b0 : (a0_0 == 2) = false := beq_eq_false_iff_ne.mpr c4
      have c4b1 : (a0_0 != 2) = true := bne_iff_ne.mpr c4
      (first | rw [c4b0] | (simp only [i64_w, i32_w]; rw [c4b0]) | skip)
      have H' := Aside0.mk H
      clear H
      have hcz6_0 : w3.cell? ⟨gb184, 0, none⟩ = some (.int .i64 a0_0) := (blk_cell BK184.out 0).trans rfl
      have hcz6_1 : w3.cell? ⟨gb184, 1, none⟩ = some (.string a0_1) := (blk_cell BK184.out 1).trans rfl
      have hcz6_2 : w3.cell? ⟨gb184, 2, none⟩ = some (.int .i64 a0_2) := (blk_cell BK184.out 2).trans rfl
      have hcz6_3 : w3.cell? ⟨gb184, 3, none⟩ = some (.int .i64 a0_3) := (blk_cell BK184.out 3).trans rfl
      have hfz6_0 := blk_frozen BK184.out 0
      have hfz6_1 := blk_frozen BK184.out 1
      have hfz6_2 := blk_frozen BK184.out 2
      have hfz6_3 := blk_frozen BK184.out 3
      go_wp2
      go_meet
      case rel => exact ⟨_, ((a0_2 != 0)), (by first | rfl | (simp; done) | (simp [*]; done) | (simp <;> rfl)), H', ⟨by first | omega | exact Nat.le_refl _⟩, ⟨by (with_reducible repeat (first | refine blk_drewN ?_ _ | refine blk_drew ?_ | refine blk_alloc ?_ _)); exact BK184.out⟩, ⟨bl1_ HB.out GE184.out⟩⟩
  case rest =>
    clear HC2
    try clear p2
    try clear c3
    try clear c4
    try clear c4b0
    try clear c4b1
    try clear hcz5_0
    try clear hcz5_1
    try clear hcz5_2
    try clear hcz5_3
    try clear hcz6_0
    try clear hcz6_1
    try clear hcz6_2
    try clear hcz6_3
    try clear hfz5_0
    try clear hfz5_1
    try clear hfz5_2
    try clear hfz5_3
    try clear hfz6_0
    try clear hfz6_1
    try clear hfz6_2
    try clear hfz6_3
    obtain ⟨kq, x10_1, rfl, HA, HJ1, BK184, HB⟩ := hcut
    cases kq with
    | zero => exact absurd HA.out (by simp [lexer_Valid.j0])
    | succ kj1 =>
      have H := HA.out
      clear HA
      simp only [lexer_Valid.j0] at H
      by_cases c7 : x10_1 = true
      · subst c7
        have H1 : (some false) = some r := by rw [if_pos rfl] at H; exact H
        clear H
        have H := H1
        clear H1
        obtain rfl := Option.some.inj H
        go_wp2
        go_ret
        exact ⟨er_, bl1_ HB.out GE184.out⟩
      · replace c7 := Bool.eq_false_iff.mpr c7
        subst c7
        have H1 : (if a0_0 = 1 then (if a0_1.toList = ([] : List UInt8) then (some false) else ((lexer_isWord.f kj1 a0_1).bind fun t185 => (some t185))) else (if a0_0 = 2 then (if a0_1.toList = ([] : List UInt8) then (if 0 ≤ a0_2 then (some (decide (a0_2 ≤ 1000000000))) else (some false)) else (some false)) else (if a0_0 = 3 then ((lexer_title.f kj1 a0_1).bind fun t186 => (some (t186 == 0))) else (if a0_0 = 4 then (if (a0_1.size : Int) = 1 then ((lexer_kinds.f).bind fun t187 => (if 0 < (a0_1.size : Int) then (if 0 ≤ (bt a0_1 0) then (if (bt a0_1 0) < 256 then (some ((lexer_kinds.at_ (bt a0_1 0)) == 5)) else (none)) else (none)) else (none))) else (some false)) else (if a0_0 = 5 then (some (a0_1.toList == ([] : List UInt8))) else (some false)))))) = some r := by rw [if_neg (show ¬ (false = true) by decide)] at H; exact H
        clear H
        have H := H1
        clear H1
        by_cases c8 : a0_0 = 1
        · rw [if_pos c8] at H
          have c8b0 : (a0_0 == 1) = true := beq_iff_eq.mpr c8
          have c8b1 : (a0_0 != 1) = false := bne_eq_false_iff_eq.mpr c8
          clear c8
          by_cases c9 : a0_1.toList = ([] : List UInt8)
          · rw [if_pos c9] at H
            have c9b0 : (a0_1.toList == ([] : List UInt8)) = true := beq_iff_eq.mpr c9
            have c9b1 : (a0_1.toList != ([] : List UInt8)) = false := bne_eq_false_iff_eq.mpr c9
            clear c9
            obtain rfl := Option.some.inj H
            have hcz10_0 : wc.cell? ⟨gb184, 0, none⟩ = some (.int .i64 a0_0) := (blk_cell BK184.out 0).trans rfl
            have hcz10_1 : wc.cell? ⟨gb184, 1, none⟩ = some (.string a0_1) := (blk_cell BK184.out 1).trans rfl
            have hcz10_2 : wc.cell? ⟨gb184, 2, none⟩ = some (.int .i64 a0_2) := (blk_cell BK184.out 2).trans rfl
            have hcz10_3 : wc.cell? ⟨gb184, 3, none⟩ = some (.int .i64 a0_3) := (blk_cell BK184.out 3).trans rfl
            have hfz10_0 := blk_frozen BK184.out 0
            have hfz10_1 := blk_frozen BK184.out 1
            have hfz10_2 := blk_frozen BK184.out 2
            have hfz10_3 := blk_frozen BK184.out 3
            go_wp2
            go_ret
            exact ⟨er_, bl1_ HB.out GE184.out⟩
          · rw [if_neg c9] at H
            have c9b0 : (a0_1.toList == ([] : List UInt8)) = false := beq_eq_false_iff_ne.mpr c9
            have c9b1 : (a0_1.toList != ([] : List UInt8)) = true := bne_iff_ne.mpr c9
            replace H := Option.bind_eq_some_iff.mp H
            obtain ⟨t185, A110, H⟩ := H
            replace H : (some t185) = some r := H
            have A11 := Aside0.mk A110
            clear A110
            obtain rfl := Option.some.inj H
            have hcz12_0 : wc.cell? ⟨gb184, 0, none⟩ = some (.int .i64 a0_0) := (blk_cell BK184.out 0).trans rfl
            have hcz12_1 : wc.cell? ⟨gb184, 1, none⟩ = some (.string a0_1) := (blk_cell BK184.out 1).trans rfl
            have hcz12_2 : wc.cell? ⟨gb184, 2, none⟩ = some (.int .i64 a0_2) := (blk_cell BK184.out 2).trans rfl
            have hcz12_3 : wc.cell? ⟨gb184, 3, none⟩ = some (.int .i64 a0_3) := (blk_cell BK184.out 3).trans rfl
            have hfz12_0 := blk_frozen BK184.out 0
            have hfz12_1 := blk_frozen BK184.out 1
            have hfz12_2 := blk_frozen BK184.out 2
            have hfz12_3 := blk_frozen BK184.out 3
            go_wp2_with (first | (go_at_call 63; (with_reducible refine (lexer_isWord.calls kj1 a0_1 t185 _ A11.out).mono ?_); rintro e w13 ⟨rfl, hb⟩; have n0_ := Aside0.mk (blk_below (g := gb184) (o := .cells #[.int .i64 a0_0, .string a0_1, .int .i64 a0_2, .int .i64 a0_3] 46 (0, 0)) (bk_ BK184.out) hb); have n1_ := Aside0.mk (below_step (bl1_ HB.out GE184.out) hb); clear BK184; clear HB; have BK184 := n0_; have HB := n1_; clear n0_ n1_; (try clear hb); (try clear hb2); (try clear hk); (try clear hi)))
            go_ret
            exact ⟨er_, bl1_ HB.out GE184.out⟩
        · rw [if_neg c8] at H
          have c8b0 : (a0_0 == 1) = false := beq_eq_false_iff_ne.mpr c8
          have c8b1 : (a0_0 != 1) = true := bne_iff_ne.mpr c8
          by_cases c14 : a0_0 = 2
          · rw [if_pos c14] at H
            have c14b0 : (a0_0 == 2) = true := beq_iff_eq.mpr c14
            have c14b1 : (a0_0 != 2) = false := bne_eq_false_iff_eq.mpr c14
            clear c14
            by_cases c15 : a0_1.toList = ([] : List UInt8)
            · rw [if_pos c15] at H
              have c15b0 : (a0_1.toList == ([] : List UInt8)) = true := beq_iff_eq.mpr c15
              have c15b1 : (a0_1.toList != ([] : List UInt8)) = false := bne_eq_false_iff_eq.mpr c15
              clear c15
              by_cases c16 : 0 ≤ a0_2
              · rw [if_pos c16] at H
                have c16b0 : decide (0 ≤ a0_2) = true := decide_eq_true c16
                clear c16
                obtain rfl := Option.some.inj H
                have hcz17_0 : wc.cell? ⟨gb184, 0, none⟩ = some (.int .i64 a0_0) := (blk_cell BK184.out 0).trans rfl
                have hcz17_1 : wc.cell? ⟨gb184, 1, none⟩ = some (.string a0_1) := (blk_cell BK184.out 1).trans rfl
                have hcz17_2 : wc.cell? ⟨gb184, 2, none⟩ = some (.int .i64 a0_2) := (blk_cell BK184.out 2).trans rfl
                have hcz17_3 : wc.cell? ⟨gb184, 3, none⟩ = some (.int .i64 a0_3) := (blk_cell BK184.out 3).trans rfl
                have hfz17_0 := blk_frozen BK184.out 0
                have hfz17_1 := blk_frozen BK184.out 1
                have hfz17_2 := blk_frozen BK184.out 2
                have hfz17_3 := blk_frozen BK184.out 3
                go_wp2
                go_ret
                exact ⟨er_, bl1_ HB.out GE184.out⟩
              · rw [if_neg c16] at H
                have c16b0 : decide (0 ≤ a0_2) = false := decide_eq_false c16
                clear c16
                obtain rfl := Option.some.inj H
                have hcz18_0 : wc.cell? ⟨gb184, 0, none⟩ = some (.int .i64 a0_0) := (blk_cell BK184.out 0).trans rfl
                have hcz18_1 : wc.cell? ⟨gb184, 1, none⟩ = some (.string a0_1) := (blk_cell BK184.out 1).trans rfl
                have hcz18_2 : wc.cell? ⟨gb184, 2, none⟩ = some (.int .i64 a0_2) := (blk_cell BK184.out 2).trans rfl
                have hcz18_3 : wc.cell? ⟨gb184, 3, none⟩ = some (.int .i64 a0_3) := (blk_cell BK184.out 3).trans rfl
                have hfz18_0 := blk_frozen BK184.out 0
                have hfz18_1 := blk_frozen BK184.out 1
                have hfz18_2 := blk_frozen BK184.out 2
                have hfz18_3 := blk_frozen BK184.out 3
                go_wp2
                go_ret
                exact ⟨er_, bl1_ HB.out GE184.out⟩
            · rw [if_neg c15] at H
              have c15b0 : (a0_1.toList == ([] : List UInt8)) = false := beq_eq_false_iff_ne.mpr c15
              have c15b1 : (a0_1.toList != ([] : List UInt8)) = true := bne_iff_ne.mpr c15
              obtain rfl := Option.some.inj H
              have hcz19_0 : wc.cell? ⟨gb184, 0, none⟩ = some (.int .i64 a0_0) := (blk_cell BK184.out 0).trans rfl
              have hcz19_1 : wc.cell? ⟨gb184, 1, none⟩ = some (.string a0_1) := (blk_cell BK184.out 1).trans rfl
              have hcz19_2 : wc.cell? ⟨gb184, 2, none⟩ = some (.int .i64 a0_2) := (blk_cell BK184.out 2).trans rfl
              have hcz19_3 : wc.cell? ⟨gb184, 3, none⟩ = some (.int .i64 a0_3) := (blk_cell BK184.out 3).trans rfl
              have hfz19_0 := blk_frozen BK184.out 0
              have hfz19_1 := blk_frozen BK184.out 1
              have hfz19_2 := blk_frozen BK184.out 2
              have hfz19_3 := blk_frozen BK184.out 3
              go_wp2
              go_ret
              exact ⟨er_, bl1_ HB.out GE184.out⟩
          · rw [if_neg c14] at H
            have c14b0 : (a0_0 == 2) = false := beq_eq_false_iff_ne.mpr c14
            have c14b1 : (a0_0 != 2) = true := bne_iff_ne.mpr c14
            by_cases c20 : a0_0 = 3
            · rw [if_pos c20] at H
              have c20b0 : (a0_0 == 3) = true := beq_iff_eq.mpr c20
              have c20b1 : (a0_0 != 3) = false := bne_eq_false_iff_eq.mpr c20
              clear c20
              replace H := Option.bind_eq_some_iff.mp H
              obtain ⟨t186, A210, H⟩ := H
              replace H : (some (t186 == 0)) = some r := H
              have A21 := Aside0.mk A210
              clear A210
              obtain rfl := Option.some.inj H
              have hcz22_0 : wc.cell? ⟨gb184, 0, none⟩ = some (.int .i64 a0_0) := (blk_cell BK184.out 0).trans rfl
              have hcz22_1 : wc.cell? ⟨gb184, 1, none⟩ = some (.string a0_1) := (blk_cell BK184.out 1).trans rfl
              have hcz22_2 : wc.cell? ⟨gb184, 2, none⟩ = some (.int .i64 a0_2) := (blk_cell BK184.out 2).trans rfl
              have hcz22_3 : wc.cell? ⟨gb184, 3, none⟩ = some (.int .i64 a0_3) := (blk_cell BK184.out 3).trans rfl
              have hfz22_0 := blk_frozen BK184.out 0
              have hfz22_1 := blk_frozen BK184.out 1
              have hfz22_2 := blk_frozen BK184.out 2
              have hfz22_3 := blk_frozen BK184.out 3
              go_wp2_with (first | ((with_reducible refine gate_callee (f := 64) rfl ?_); refine goesL_ (some 42) rfl rfl Tryd.func64 (by kernel_rfl) rfl #[.string a0_1] rfl (by (try simp only [List.map_toArray, List.map_cons, List.map_nil]); first | done | rfl | (simp only [List.length_drop, List.length_take]; rfl)) ?_; (with_reducible refine (lexer_title.calls kj1 a0_1 t186 _ A21.out).mono ?_); rintro e w' ⟨rfl, ⟨nd, rfl⟩⟩; refine ⟨_, rfl, ?_⟩))
              go_ret
              exact ⟨er_, bl1_ HB.out GE184.out⟩
            · rw [if_neg c20] at H
              have c20b0 : (a0_0 == 3) = false := beq_eq_false_iff_ne.mpr c20
              have c20b1 : (a0_0 != 3) = true := bne_iff_ne.mpr c20
              by_cases c23 : a0_0 = 4
              · rw [if_pos c23] at H
                have c23b0 : (a0_0 == 4) = true := beq_iff_eq.mpr c23
                have c23b1 : (a0_0 != 4) = false := bne_eq_false_iff_eq.mpr c23
                clear c23
                by_cases c24 : (a0_1.size : Int) = 1
                · rw [if_pos c24] at H
                  have c24b0 : ((a0_1.size : Int) == 1) = true := beq_iff_eq.mpr c24
                  have c24b1 : ((a0_1.size : Int) != 1) = false := bne_eq_false_iff_eq.mpr c24
                  clear c24
                  replace H := Option.bind_eq_some_iff.mp H
                  obtain ⟨t187, A250, H⟩ := H
                  replace H : (if 0 < (a0_1.size : Int) then (if 0 ≤ (bt a0_1 0) then (if (bt a0_1 0) < 256 then (some ((lexer_kinds.at_ (bt a0_1 0)) == 5)) else (none)) else (none)) else (none)) = some r := H
                  have A25 := Aside0.mk A250
                  clear A250
                  by_cases c26 : 0 < (a0_1.size : Int)
                  · rw [if_pos c26] at H
                    have c26b0 : decide (0 < (a0_1.size : Int)) = true := decide_eq_true c26
                    have c26b1 : decide (0 < a0_1.size) = true := decide_eq_true (by omega)
                    clear c26
                    by_cases c28 : 0 ≤ (bt a0_1 0)
                    · rw [if_pos c28] at H
                      have c28b0 : decide (0 ≤ (bt a0_1 0)) = true := decide_eq_true c28
                      clear c28
                      by_cases c29 : (bt a0_1 0) < 256
                      · rw [if_pos c29] at H
                        have c29b0 : decide ((bt a0_1 0) < 256) = true := decide_eq_true c29
                        clear c29
                        obtain rfl := Option.some.inj H
                        have hcz31_0 : wc.cell? ⟨gb184, 0, none⟩ = some (.int .i64 a0_0) := (blk_cell BK184.out 0).trans rfl
                        have hcz31_1 : wc.cell? ⟨gb184, 1, none⟩ = some (.string a0_1) := (blk_cell BK184.out 1).trans rfl
                        have hcz31_2 : wc.cell? ⟨gb184, 2, none⟩ = some (.int .i64 a0_2) := (blk_cell BK184.out 2).trans rfl
                        have hcz31_3 : wc.cell? ⟨gb184, 3, none⟩ = some (.int .i64 a0_3) := (blk_cell BK184.out 3).trans rfl
                        have hfz31_0 := blk_frozen BK184.out 0
                        have hfz31_1 := blk_frozen BK184.out 1
                        have hfz31_2 := blk_frozen BK184.out 2
                        have hfz31_3 := blk_frozen BK184.out 3
                        try go_wp2
                        have n0_ := Aside0.mk (blk_drew BK184.out)
                        have n1_ := Aside0.mk (below_drew1 HB.out)
                        clear BK184
                        clear HB
                        have BK184 := n0_
                        have HB := n1_
                        clear n0_ n1_
                        have p27 : 0 ≤ (0 : Int) := (by omega)
                        have q27 : 0 < a0_1.size := (by have : (0 : Int) < (a0_1.size : Int) := of_decide_eq_true (by first | (with_reducible assumption) | assumption); omega)
                        have hx27 : ∀ h : 0 < a0_1.size, ((a0_1[0]'h).toNat : Int) = bt a0_1 0 := bt_at a0_1 0
                        clear p27
                        have qi27 : (0 < (a0_1.size : Int)) = True := eq_true (of_decide_eq_true (by first | (with_reducible assumption) | assumption))
                        replace q27 := eq_true q27
                        refine start_ (n := 13) (S := fun w' => w'.cell? ⟨gb184, 0, none⟩ = some (.int .i64 a0_0) ∧ w'.cell? ⟨gb184, 1, none⟩ = some (.string a0_1) ∧ w'.cell? ⟨gb184, 2, none⟩ = some (.int .i64 a0_2) ∧ w'.cell? ⟨gb184, 3, none⟩ = some (.int .i64 a0_3)) (ds := []) #[false, false, false, false, false, false, false, false, false, false, false, false, false] (by kernel_rfl) rfl rfl ⟨(blk_cell BK184.out 0).trans rfl, (blk_cell BK184.out 1).trans rfl, (blk_cell BK184.out 2).trans rfl, (blk_cell BK184.out 3).trans rfl⟩ (fun hHeld => ?_); refine with_tabW lexer_Valid.tab11 lexer_Valid.bits11 (fun HT_ HW_ => ?_)
                        generalize wc.drew = w32 at BK184 HB hHeld ⊢
                        refine pure_ (i := 0) (N := some 46) (v := ?_) (a' := ?_) #[true, false, false, false, false, false, false, false, false, false, false, false, false] rfl rfl (any_of HT_.out (by kernel_rfl)) (fun _ _ _ h => h) (Or.inl ⟨by rfl, ?_⟩) ?_ ?_
                        rotate_left
                        · intro w'
                          go_simp
                          with_reducible rfl
                        rotate_left
                        · simp only [Act.put, List.setIfInBounds_toArray, List.set_cons_zero, List.set_cons_succ, i64_w, i32_w]
                          rfl
                        refine take_ (i := 1) (N := some 47) (v := ?_) (a' := ?_) #[true, true, false, false, false, false, false, false, false, false, false, false, false] rfl rfl (take_ofW HT_.out HW_.out (by kernel_rfl)) (fun _ _ _ h => h) (Or.inl ⟨by rfl, ?_⟩) hHeld ?_ ?_
                        rotate_left
                        · rintro w' ⟨s0, s1, s2, s3⟩
                          go_simp
                          with_reducible rfl
                        rotate_left
                        · simp only [Act.put, List.setIfInBounds_toArray, List.set_cons_zero, List.set_cons_succ, i64_w, i32_w]
                          rfl
                        refine pure_ (i := 2) (N := some 48) (v := ?_) (a' := ?_) #[true, true, true, false, false, false, false, false, false, false, false, false, false] rfl rfl (any_of HT_.out (by kernel_rfl)) (fun _ _ _ h => h) (Or.inl ⟨by rfl, ?_⟩) ?_ ?_
                        rotate_left
                        · intro w'
                          go_simp
                          with_reducible rfl
                        rotate_left
                        · simp only [Act.put, List.setIfInBounds_toArray, List.set_cons_zero, List.set_cons_succ, i64_w, i32_w]
                          rfl
                        refine pure_ (i := 3) (N := some 49) (v := ?_) (a' := ?_) #[true, true, true, true, false, false, false, false, false, false, false, false, false] rfl rfl (any_of HT_.out (by kernel_rfl)) (fun _ _ _ h => h) (Or.inl ⟨by rfl, ?_⟩) ?_ ?_
                        rotate_left
                        · intro w'
                          go_simp
                          with_reducible rfl
                        rotate_left
                        · simp only [Act.put, List.setIfInBounds_toArray, List.set_cons_zero, List.set_cons_succ, i64_w, i32_w]
                          rfl
                        refine pure_ (i := 4) (N := some 50) (v := ?_) (a' := ?_) #[true, true, true, true, true, false, false, false, false, false, false, false, false] rfl rfl (any_of HT_.out (by kernel_rfl)) (fun _ _ _ h => h) (Or.inl ⟨by rfl, ?_⟩) ?_ ?_
                        rotate_left
                        · intro w'
                          go_simp
                          with_reducible rfl
                        rotate_left
                        · simp only [Act.put, List.setIfInBounds_toArray, List.set_cons_zero, List.set_cons_succ, i64_w, i32_w]
                          rfl
                        refine pure_ (i := 6) (N := some 52) (v := ?_) (a' := ?_) #[true, true, true, true, true, false, true, false, false, false, false, false, false] rfl rfl (any_of HT_.out (by kernel_rfl)) (fun _ _ _ h => h) (Or.inl ⟨by rfl, ?_⟩) ?_ ?_
                        rotate_left
                        · intro w'
                          go_simp
                          with_reducible rfl
                        rotate_left
                        · simp only [Act.put, List.setIfInBounds_toArray, List.set_cons_zero, List.set_cons_succ, i64_w, i32_w]
                          rfl
                        refine take_ (i := 7) (N := some 53) (v := ?_) (a' := ?_) #[true, true, true, true, true, false, true, true, false, false, false, false, false] rfl rfl (take_ofW HT_.out HW_.out (by kernel_rfl)) (fun _ _ _ h => h) (Or.inl ⟨by rfl, ?_⟩) hHeld ?_ ?_
                        rotate_left
                        · rintro w' ⟨s0, s1, s2, s3⟩
                          go_simp
                          with_reducible rfl
                        rotate_left
                        · simp only [Act.put, List.setIfInBounds_toArray, List.set_cons_zero, List.set_cons_succ, i64_w, i32_w]
                          rfl
                        refine take_ (i := 8) (N := some 54) (v := ?_) (a' := ?_) #[true, true, true, true, true, false, true, true, true, false, false, false, false] rfl rfl (take_ofW HT_.out HW_.out (by kernel_rfl)) (fun _ _ _ h => h) (Or.inl ⟨by rfl, ?_⟩) hHeld ?_ ?_
                        rotate_left
                        · rintro w' ⟨s0, s1, s2, s3⟩
                          go_simp
                          with_reducible rfl
                        rotate_left
                        · simp only [Act.put, List.setIfInBounds_toArray, List.set_cons_zero, List.set_cons_succ, i64_w, i32_w]
                          rfl
                        refine one_ (i := 5) (N := some 51) #[true, true, true, true, true, true, true, true, true, false, false, false, false] rfl rfl (one_of HT_.out (by kernel_rfl)) (by decide) (fun K hK => ?_)
                        refine goes_ Tryd.func65 (by kernel_rfl) rfl #[] (by rfl) rfl rfl (by (try simp only [List.map_toArray, List.map_cons, List.map_nil]); first | done | rfl | (simp only [List.length_drop, List.length_take]; rfl)) ?_
                        with_reducible refine (lexer_kinds.calls  t187 _ A25.out).mono ?_
                        rintro e w33 ⟨rfl, hb⟩
                        refine ⟨_, rfl, ?_⟩
                        have n0_ := Aside0.mk (blk_below (g := gb184) (o := .cells #[.int .i64 a0_0, .string a0_1, .int .i64 a0_2, .int .i64 a0_3] 46 (0, 0)) (bk_ BK184.out) hb)
                        have n1_ := Aside0.mk (below_step (bl1_ HB.out GE184.out) hb)
                        clear BK184
                        clear HB
                        have BK184 := n0_
                        have HB := n1_
                        clear n0_ n1_
                        (try clear hb)
                        (try clear hb2)
                        (try clear hk)
                        (try clear hi)
                        have p30 : 0 ≤ ((bt a0_1 0) : Int) := of_decide_eq_true (by first | (with_reducible assumption) | assumption)
                        have q30 : ((bt a0_1 0) : Int) < 256 := of_decide_eq_true (by first | (with_reducible assumption) | assumption)
                        have hx30 := lexer_kinds.at_run A25.out (bt a0_1 0) p30 q30
                        replace p30 := eq_true p30
                        replace q30 := eq_true q30
                        refine hK.out _ _ ⟨(blk_cell BK184.out 0).trans rfl, (blk_cell BK184.out 1).trans rfl, (blk_cell BK184.out 2).trans rfl, (blk_cell BK184.out 3).trans rfl⟩ (fun hHeld => ?_)
                        clear hK K
                        refine norm_ (a' := ?_) ?_ ?_
                        rotate_left
                        · show Act.put _ (some 51) _ = _
                          simp only [Act.put, List.setIfInBounds_toArray, List.set_cons_zero, List.set_cons_succ, i64_w, i32_w]
                          rfl
                        refine take_ (i := 9) (N := some 55) (v := ?_) (a' := ?_) #[true, true, true, true, true, true, true, true, true, true, false, false, false] rfl rfl (take_ofW HT_.out HW_.out (by kernel_rfl)) (fun _ _ _ h => h) (Or.inl ⟨by rfl, ?_⟩) hHeld ?_ ?_
                        rotate_left
                        · rintro w' ⟨s0, s1, s2, s3⟩
                          go_simp
                          with_reducible rfl
                        rotate_left
                        · simp only [Act.put, List.setIfInBounds_toArray, List.set_cons_zero, List.set_cons_succ, i64_w, i32_w]
                          rfl
                        refine pure_ (i := 10) (N := some 56) (v := ?_) (a' := ?_) #[true, true, true, true, true, true, true, true, true, true, true, false, false] rfl rfl (any_of HT_.out (by kernel_rfl)) (fun _ _ _ h => h) (Or.inl ⟨by rfl, ?_⟩) ?_ ?_
                        rotate_left
                        · intro w'
                          go_simp
                          with_reducible rfl
                        rotate_left
                        · simp only [Act.put, List.setIfInBounds_toArray, List.set_cons_zero, List.set_cons_succ, i64_w, i32_w]
                          rfl
                        refine pure_ (i := 11) (N := some 57) (v := ?_) (a' := ?_) #[true, true, true, true, true, true, true, true, true, true, true, true, false] rfl rfl (any_of HT_.out (by kernel_rfl)) (fun _ _ _ h => h) (Or.inl ⟨by rfl, ?_⟩) ?_ ?_
                        rotate_left
                        · intro w'
                          go_simp
                          with_reducible rfl
                        rotate_left
                        · simp only [Act.put, List.setIfInBounds_toArray, List.set_cons_zero, List.set_cons_succ, i64_w, i32_w]
                          rfl
                        refine pure_ (i := 12) (N := some 2) (v := ?_) (a' := ?_) #[true, true, true, true, true, true, true, true, true, true, true, true, true] rfl rfl (any_of HT_.out (by kernel_rfl)) (fun _ _ _ h => h) (Or.inl ⟨by rfl, ?_⟩) ?_ ?_
                        rotate_left
                        · intro w'
                          go_simp
                          with_reducible rfl
                        rotate_left
                        · simp only [Act.put, List.setIfInBounds_toArray, List.set_cons_zero, List.set_cons_succ, i64_w, i32_w]
                          rfl
                        refine done_ (done_of HT_.out (by kernel_rfl)) ?_
                        try go_wp2
                        go_ret
                        exact ⟨er_, bl1_ HB.out GE184.out⟩
                      · rw [if_neg c29] at H
                        exact absurd H (by simp)
                    · rw [if_neg c28] at H
                      exact absurd H (by simp)
                  · rw [if_neg c26] at H
                    exact absurd H (by simp)
                · rw [if_neg c24] at H
                  have c24b0 : ((a0_1.size : Int) == 1) = false := beq_eq_false_iff_ne.mpr c24
                  have c24b1 : ((a0_1.size : Int) != 1) = true := bne_iff_ne.mpr c24
                  obtain rfl := Option.some.inj H
                  have hcz34_0 : wc.cell? ⟨gb184, 0, none⟩ = some (.int .i64 a0_0) := (blk_cell BK184.out 0).trans rfl
                  have hcz34_1 : wc.cell? ⟨gb184, 1, none⟩ = some (.string a0_1) := (blk_cell BK184.out 1).trans rfl
                  have hcz34_2 : wc.cell? ⟨gb184, 2, none⟩ = some (.int .i64 a0_2) := (blk_cell BK184.out 2).trans rfl
                  have hcz34_3 : wc.cell? ⟨gb184, 3, none⟩ = some (.int .i64 a0_3) := (blk_cell BK184.out 3).trans rfl
                  have hfz34_0 := blk_frozen BK184.out 0
                  have hfz34_1 := blk_frozen BK184.out 1
                  have hfz34_2 := blk_frozen BK184.out 2
                  have hfz34_3 := blk_frozen BK184.out 3
                  try go_wp2
                  have n0_ := Aside0.mk (blk_drew BK184.out)
                  have n1_ := Aside0.mk (below_drew1 HB.out)
                  clear BK184
                  clear HB
                  have BK184 := n0_
                  have HB := n1_
                  clear n0_ n1_
                  refine start_ (n := 13) (S := fun w' => w'.cell? ⟨gb184, 0, none⟩ = some (.int .i64 a0_0) ∧ w'.cell? ⟨gb184, 1, none⟩ = some (.string a0_1) ∧ w'.cell? ⟨gb184, 2, none⟩ = some (.int .i64 a0_2) ∧ w'.cell? ⟨gb184, 3, none⟩ = some (.int .i64 a0_3)) (ds := []) #[false, false, false, false, false, false, false, false, false, false, false, false, false] (by kernel_rfl) rfl rfl ⟨(blk_cell BK184.out 0).trans rfl, (blk_cell BK184.out 1).trans rfl, (blk_cell BK184.out 2).trans rfl, (blk_cell BK184.out 3).trans rfl⟩ (fun hHeld => ?_); refine with_tabW lexer_Valid.tab11 lexer_Valid.bits11 (fun HT_ HW_ => ?_)
                  generalize wc.drew = w35 at BK184 HB hHeld ⊢
                  refine pure_ (i := 0) (N := some 46) (v := ?_) (a' := ?_) #[true, false, false, false, false, false, false, false, false, false, false, false, false] rfl rfl (any_of HT_.out (by kernel_rfl)) (fun _ _ _ h => h) (Or.inl ⟨by rfl, ?_⟩) ?_ ?_
                  rotate_left
                  · intro w'
                    go_simp
                    with_reducible rfl
                  rotate_left
                  · simp only [Act.put, List.setIfInBounds_toArray, List.set_cons_zero, List.set_cons_succ, i64_w, i32_w]
                    rfl
                  refine take_ (i := 1) (N := some 47) (v := ?_) (a' := ?_) #[true, true, false, false, false, false, false, false, false, false, false, false, false] rfl rfl (take_ofW HT_.out HW_.out (by kernel_rfl)) (fun _ _ _ h => h) (Or.inl ⟨by rfl, ?_⟩) hHeld ?_ ?_
                  rotate_left
                  · rintro w' ⟨s0, s1, s2, s3⟩
                    go_simp
                    with_reducible rfl
                  rotate_left
                  · simp only [Act.put, List.setIfInBounds_toArray, List.set_cons_zero, List.set_cons_succ, i64_w, i32_w]
                    rfl
                  refine pure_ (i := 2) (N := some 48) (v := ?_) (a' := ?_) #[true, true, true, false, false, false, false, false, false, false, false, false, false] rfl rfl (any_of HT_.out (by kernel_rfl)) (fun _ _ _ h => h) (Or.inl ⟨by rfl, ?_⟩) ?_ ?_
                  rotate_left
                  · intro w'
                    go_simp
                    with_reducible rfl
                  rotate_left
                  · simp only [Act.put, List.setIfInBounds_toArray, List.set_cons_zero, List.set_cons_succ, i64_w, i32_w]
                    rfl
                  refine pure_ (i := 3) (N := some 49) (v := ?_) (a' := ?_) #[true, true, true, true, false, false, false, false, false, false, false, false, false] rfl rfl (any_of HT_.out (by kernel_rfl)) (fun _ _ _ h => h) (Or.inl ⟨by rfl, ?_⟩) ?_ ?_
                  rotate_left
                  · intro w'
                    go_simp
                    with_reducible rfl
                  rotate_left
                  · simp only [Act.put, List.setIfInBounds_toArray, List.set_cons_zero, List.set_cons_succ, i64_w, i32_w]
                    rfl
                  refine pure_ (i := 4) (N := some 50) (v := ?_) (a' := ?_) #[true, true, true, true, true, false, false, false, false, false, false, false, false] rfl rfl (any_of HT_.out (by kernel_rfl)) (fun _ _ _ h => h) (Or.inl ⟨by rfl, ?_⟩) ?_ ?_
                  rotate_left
                  · intro w'
                    go_simp
                    with_reducible rfl
                  rotate_left
                  · simp only [Act.put, List.setIfInBounds_toArray, List.set_cons_zero, List.set_cons_succ, i64_w, i32_w]
                    rfl
                  refine pure_ (i := 5) (N := some 51) (v := undef) (a' := ?_) #[true, true, true, true, true, true, false, false, false, false, false, false, false] rfl rfl (any_of HT_.out (by kernel_rfl)) (fun _ _ _ h => h) (Or.inr ⟨by rfl, rfl⟩) ?_ ?_
                  rotate_left
                  · simp only [Act.put, List.setIfInBounds_toArray, List.set_cons_zero, List.set_cons_succ, i64_w, i32_w]
                    rfl
                  refine pure_ (i := 6) (N := some 52) (v := undef) (a' := ?_) #[true, true, true, true, true, true, true, false, false, false, false, false, false] rfl rfl (any_of HT_.out (by kernel_rfl)) (fun _ _ _ h => h) (Or.inr ⟨by rfl, rfl⟩) ?_ ?_
                  rotate_left
                  · simp only [Act.put, List.setIfInBounds_toArray, List.set_cons_zero, List.set_cons_succ, i64_w, i32_w]
                    rfl
                  refine pure_ (i := 7) (N := some 53) (v := undef) (a' := ?_) #[true, true, true, true, true, true, true, true, false, false, false, false, false] rfl rfl (any_of HT_.out (by kernel_rfl)) (fun _ _ _ h => h) (Or.inr ⟨by rfl, rfl⟩) ?_ ?_
                  rotate_left
                  · simp only [Act.put, List.setIfInBounds_toArray, List.set_cons_zero, List.set_cons_succ, i64_w, i32_w]
                    rfl
                  refine pure_ (i := 8) (N := some 54) (v := undef) (a' := ?_) #[true, true, true, true, true, true, true, true, true, false, false, false, false] rfl rfl (any_of HT_.out (by kernel_rfl)) (fun _ _ _ h => h) (Or.inr ⟨by rfl, rfl⟩) ?_ ?_
                  rotate_left
                  · simp only [Act.put, List.setIfInBounds_toArray, List.set_cons_zero, List.set_cons_succ, i64_w, i32_w]
                    rfl
                  refine pure_ (i := 9) (N := some 55) (v := undef) (a' := ?_) #[true, true, true, true, true, true, true, true, true, true, false, false, false] rfl rfl (any_of HT_.out (by kernel_rfl)) (fun _ _ _ h => h) (Or.inr ⟨by rfl, rfl⟩) ?_ ?_
                  rotate_left
                  · simp only [Act.put, List.setIfInBounds_toArray, List.set_cons_zero, List.set_cons_succ, i64_w, i32_w]
                    rfl
                  refine pure_ (i := 10) (N := some 56) (v := undef) (a' := ?_) #[true, true, true, true, true, true, true, true, true, true, true, false, false] rfl rfl (any_of HT_.out (by kernel_rfl)) (fun _ _ _ h => h) (Or.inr ⟨by rfl, rfl⟩) ?_ ?_
                  rotate_left
                  · simp only [Act.put, List.setIfInBounds_toArray, List.set_cons_zero, List.set_cons_succ, i64_w, i32_w]
                    rfl
                  refine pure_ (i := 11) (N := some 57) (v := ?_) (a' := ?_) #[true, true, true, true, true, true, true, true, true, true, true, true, false] rfl rfl (any_of HT_.out (by kernel_rfl)) (fun _ _ _ h => h) (Or.inl ⟨by rfl, ?_⟩) ?_ ?_
                  rotate_left
                  · intro w'
                    go_simp
                    with_reducible rfl
                  rotate_left
                  · simp only [Act.put, List.setIfInBounds_toArray, List.set_cons_zero, List.set_cons_succ, i64_w, i32_w]
                    rfl
                  refine pure_ (i := 12) (N := some 2) (v := ?_) (a' := ?_) #[true, true, true, true, true, true, true, true, true, true, true, true, true] rfl rfl (any_of HT_.out (by kernel_rfl)) (fun _ _ _ h => h) (Or.inl ⟨by rfl, ?_⟩) ?_ ?_
                  rotate_left
                  · intro w'
                    go_simp
                    with_reducible rfl
                  rotate_left
                  · simp only [Act.put, List.setIfInBounds_toArray, List.set_cons_zero, List.set_cons_succ, i64_w, i32_w]
                    rfl
                  refine done_ (done_of HT_.out (by kernel_rfl)) ?_
                  try go_wp2
                  go_ret
                  exact ⟨er_, bl1_ HB.out GE184.out⟩
              · rw [if_neg c23] at H
                have c23b0 : (a0_0 == 4) = false := beq_eq_false_iff_ne.mpr c23
                have c23b1 : (a0_0 != 4) = true := bne_iff_ne.mpr c23
                by_cases c36 : a0_0 = 5
                · rw [if_pos c36] at H
                  have c36b0 : (a0_0 == 5) = true := beq_iff_eq.mpr c36
                  have c36b1 : (a0_0 != 5) = false := bne_eq_false_iff_eq.mpr c36
                  clear c36
                  obtain rfl := Option.some.inj H
                  have hcz37_0 : wc.cell? ⟨gb184, 0, none⟩ = some (.int .i64 a0_0) := (blk_cell BK184.out 0).trans rfl
                  have hcz37_1 : wc.cell? ⟨gb184, 1, none⟩ = some (.string a0_1) := (blk_cell BK184.out 1).trans rfl
                  have hcz37_2 : wc.cell? ⟨gb184, 2, none⟩ = some (.int .i64 a0_2) := (blk_cell BK184.out 2).trans rfl
                  have hcz37_3 : wc.cell? ⟨gb184, 3, none⟩ = some (.int .i64 a0_3) := (blk_cell BK184.out 3).trans rfl
                  have hfz37_0 := blk_frozen BK184.out 0
                  have hfz37_1 := blk_frozen BK184.out 1
                  have hfz37_2 := blk_frozen BK184.out 2
                  have hfz37_3 := blk_frozen BK184.out 3
                  go_wp2
                  go_ret
                  exact ⟨er_, bl1_ HB.out GE184.out⟩
                · rw [if_neg c36] at H
                  have c36b0 : (a0_0 == 5) = false := beq_eq_false_iff_ne.mpr c36
                  have c36b1 : (a0_0 != 5) = true := bne_iff_ne.mpr c36
                  obtain rfl := Option.some.inj H
                  have hcz38_0 : wc.cell? ⟨gb184, 0, none⟩ = some (.int .i64 a0_0) := (blk_cell BK184.out 0).trans rfl
                  have hcz38_1 : wc.cell? ⟨gb184, 1, none⟩ = some (.string a0_1) := (blk_cell BK184.out 1).trans rfl
                  have hcz38_2 : wc.cell? ⟨gb184, 2, none⟩ = some (.int .i64 a0_2) := (blk_cell BK184.out 2).trans rfl
                  have hcz38_3 : wc.cell? ⟨gb184, 3, none⟩ = some (.int .i64 a0_3) := (blk_cell BK184.out 3).trans rfl
                  have hfz38_0 := blk_frozen BK184.out 0
                  have hfz38_1 := blk_frozen BK184.out 1
                  have hfz38_2 := blk_frozen BK184.out 2
                  have hfz38_3 := blk_frozen BK184.out 3
                  go_wp2
                  go_ret
                  exact ⟨er_, bl1_ HB.out GE184.out⟩
end Go.Proofs.YtkifdadhojbohaaDoor.Pr
namespace Go.Proofs.YtkifdadhojbohaaDoor.Pr
open Go.Proofs.YtkifdadhojbohaaDoor
open Go.RowKit Go.Proofs.YtkifdadhojbohaaDoorW.PrintWords Go.Proofs.YtkifdadhojbohaaDoorW.PrintLast Go.Proofs.YtkifdadhojbohaaDoorW.PrintMore
attribute [local go_sem] max2_int min2_int max_two min_two max_three min_three max_four min_four   -- for this text's walks alone
set_option linter.unusedVariables false
set_option linter.unusedSimpArgs false
/-! ### lexer_Spell: function 35 -/
def lexer_Spell.f (k : Nat) (a0_0 : Int) (a0_1 : ByteArray) (a0_2 : Int) (a0_3 : Int) : Option (ByteArray × Int) := (lexer_Valid.f k a0_0 a0_1 a0_2 a0_3).bind fun t359 => (if t359 = true then (if a0_0 = 3 then (if 1 + a0_1.size ≤ 9223372036854775807 then (if ((⟨#[34]⟩ : ByteArray) ++ a0_1).size + 1 ≤ 9223372036854775807 then (some (((⟨#[34]⟩ : ByteArray) ++ a0_1) ++ (⟨#[34]⟩ : ByteArray), 0)) else (none)) else (none)) else (if a0_0 = 2 then ((strconv_FormatInt.f (wrap64 (a0_2 + 1000)) 10).bind fun t360 => ((strconv_FormatInt.f (wrap64 (Int.tdiv a0_2 1000)) 10).bind fun t361 => (if 0 ≤ (wrap64 ((t360.size : Int) - 3)) then (if (wrap64 ((t360.size : Int) - 3)) ≤ (t360.size : Int) then ((strings_TrimRight.f (t360.extract ((wrap64 ((t360.size : Int) - 3)) : Int).toNat t360.size) (⟨#[48]⟩ : ByteArray)).bind fun t362 => (if t362.toList = ([] : List UInt8) then (some (t361, 0)) else (if t361.size + 1 ≤ 9223372036854775807 then (if (t361 ++ (⟨#[46]⟩ : ByteArray)).size + t362.size ≤ 9223372036854775807 then (some ((t361 ++ (⟨#[46]⟩ : ByteArray)) ++ t362, 0)) else (none)) else (none)))) else (none)) else (none)))) else (some (a0_1, 0)))) else (some ((⟨#[]⟩ : ByteArray), 1)))
theorem lexer_Spell.mono : ∀ a0 a1 a2 a3 k, LeO (lexer_Spell.f k a0 a1 a2 a3) (lexer_Spell.f (k + 1) a0 a1 a2 a3) := by
  intro a0 a1 a2 a3 k
  unfold lexer_Spell.f
  repeat' first
      | (with_reducible exact lexer_Valid.mono _ _ _ _ _)
      | (with_reducible exact LeO.refl _)
      | (with_reducible exact LeO.none _)
      | (with_reducible refine LeO.ite ?_ ?_)
      | (with_reducible refine LeO.bind ?_ (fun _ => ?_))
      | exact lexer_Valid.mono _ _ _ _ _
      | exact LeO.none _
      | refine LeO.ite ?_ ?_
      | refine LeO.bind ?_ (fun _ => ?_)
set_option maxHeartbeats 8000000 in
set_option maxRecDepth 100000 in
theorem lexer_Spell.calls (k : Nat) (a0_0 : Int) (a0_1 : ByteArray) (a0_2 : Int) (a0_3 : Int) (r1 : ByteArray) (r2 : Int) (w : World) (hG : Gl w) (h : lexer_Spell.f k a0_0 a0_1 a0_2 a0_3 = some (r1, r2)) :
    Calls Tryd.prog 35 #[.agg #[.int .i64 a0_0, .string a0_1, .int .i64 a0_2, .int .i64 a0_3]] w fun e w' => e = .returned (.tuple #[.string r1, .int .i64 r2]) ∧ Below w.heap.size w w' := by
  have hu46 := Tryd.underlying46
  have HB := Aside0.mk (Below.refl w.heap.size w)
  have H : ((lexer_Valid.f k a0_0 a0_1 a0_2 a0_3).bind fun t359 => (if t359 = true then (if a0_0 = 3 then (if 1 + a0_1.size ≤ 9223372036854775807 then (if ((⟨#[34]⟩ : ByteArray) ++ a0_1).size + 1 ≤ 9223372036854775807 then (some (((⟨#[34]⟩ : ByteArray) ++ a0_1) ++ (⟨#[34]⟩ : ByteArray), 0)) else (none)) else (none)) else (if a0_0 = 2 then ((strconv_FormatInt.f (wrap64 (a0_2 + 1000)) 10).bind fun t360 => ((strconv_FormatInt.f (wrap64 (Int.tdiv a0_2 1000)) 10).bind fun t361 => (if 0 ≤ (wrap64 ((t360.size : Int) - 3)) then (if (wrap64 ((t360.size : Int) - 3)) ≤ (t360.size : Int) then ((strings_TrimRight.f (t360.extract ((wrap64 ((t360.size : Int) - 3)) : Int).toNat t360.size) (⟨#[48]⟩ : ByteArray)).bind fun t362 => (if t362.toList = ([] : List UInt8) then (some (t361, 0)) else (if t361.size + 1 ≤ 9223372036854775807 then (if (t361 ++ (⟨#[46]⟩ : ByteArray)).size + t362.size ≤ 9223372036854775807 then (some ((t361 ++ (⟨#[46]⟩ : ByteArray)) ++ t362, 0)) else (none)) else (none)))) else (none)) else (none)))) else (some (a0_1, 0)))) else (some ((⟨#[]⟩ : ByteArray), 1)))) = some (r1, r2) := h
  clear h
  replace H := Option.bind_eq_some_iff.mp H
  obtain ⟨t359, A20, H⟩ := H
  replace H : (if t359 = true then (if a0_0 = 3 then (if 1 + a0_1.size ≤ 9223372036854775807 then (if ((⟨#[34]⟩ : ByteArray) ++ a0_1).size + 1 ≤ 9223372036854775807 then (some (((⟨#[34]⟩ : ByteArray) ++ a0_1) ++ (⟨#[34]⟩ : ByteArray), 0)) else (none)) else (none)) else (if a0_0 = 2 then ((strconv_FormatInt.f (wrap64 (a0_2 + 1000)) 10).bind fun t360 => ((strconv_FormatInt.f (wrap64 (Int.tdiv a0_2 1000)) 10).bind fun t361 => (if 0 ≤ (wrap64 ((t360.size : Int) - 3)) then (if (wrap64 ((t360.size : Int) - 3)) ≤ (t360.size : Int) then ((strings_TrimRight.f (t360.extract ((wrap64 ((t360.size : Int) - 3)) : Int).toNat t360.size) (⟨#[48]⟩ : ByteArray)).bind fun t362 => (if t362.toList = ([] : List UInt8) then (some (t361, 0)) else (if t361.size + 1 ≤ 9223372036854775807 then (if (t361 ++ (⟨#[46]⟩ : ByteArray)).size + t362.size ≤ 9223372036854775807 then (some ((t361 ++ (⟨#[46]⟩ : ByteArray)) ++ t362, 0)) else (none)) else (none)))) else (none)) else (none)))) else (some (a0_1, 0)))) else (some ((⟨#[]⟩ : ByteArray), 1))) = some (r1, r2) := H
  have A2 := Aside0.mk A20
  clear A20
  by_cases c3 : t359 = true
  · subst c3
    have H1 : (if a0_0 = 3 then (if 1 + a0_1.size ≤ 9223372036854775807 then (if ((⟨#[34]⟩ : ByteArray) ++ a0_1).size + 1 ≤ 9223372036854775807 then (some (((⟨#[34]⟩ : ByteArray) ++ a0_1) ++ (⟨#[34]⟩ : ByteArray), 0)) else (none)) else (none)) else (if a0_0 = 2 then ((strconv_FormatInt.f (wrap64 (a0_2 + 1000)) 10).bind fun t360 => ((strconv_FormatInt.f (wrap64 (Int.tdiv a0_2 1000)) 10).bind fun t361 => (if 0 ≤ (wrap64 ((t360.size : Int) - 3)) then (if (wrap64 ((t360.size : Int) - 3)) ≤ (t360.size : Int) then ((strings_TrimRight.f (t360.extract ((wrap64 ((t360.size : Int) - 3)) : Int).toNat t360.size) (⟨#[48]⟩ : ByteArray)).bind fun t362 => (if t362.toList = ([] : List UInt8) then (some (t361, 0)) else (if t361.size + 1 ≤ 9223372036854775807 then (if (t361 ++ (⟨#[46]⟩ : ByteArray)).size + t362.size ≤ 9223372036854775807 then (some ((t361 ++ (⟨#[46]⟩ : ByteArray)) ++ t362, 0)) else (none)) else (none)))) else (none)) else (none)))) else (some (a0_1, 0)))) = some (r1, r2) := by rw [if_pos rfl] at H; exact H
    clear H
    have H := H1
    clear H1
    by_cases c4 : a0_0 = 3
    · rw [if_pos c4] at H
      have c4b0 : (a0_0 == 3) = true := beq_iff_eq.mpr c4
      have c4b1 : (a0_0 != 3) = false := bne_eq_false_iff_eq.mpr c4
      clear c4
      by_cases c5 : 1 + a0_1.size ≤ 9223372036854775807
      · rw [if_pos c5] at H
        have c5b0 := eq_true c5
        have c5b1 : decide (1 + a0_1.size ≤ 9223372036854775807) = true := decide_eq_true c5
        try have c5b2 : (9223372036854775807 < 1 + a0_1.size) = False := eq_false (Nat.not_lt.2 c5)
        by_cases c6 : ((⟨#[34]⟩ : ByteArray) ++ a0_1).size + 1 ≤ 9223372036854775807
        · rw [if_pos c6] at H
          have c6b0 := eq_true c6
          have c6b1 : decide (((⟨#[34]⟩ : ByteArray) ++ a0_1).size + 1 ≤ 9223372036854775807) = true := decide_eq_true c6
          (try (have c6b3 : (9223372036854775807 < 1 + a0_1.size + 1) = False := eq_false (Nat.not_lt.2 (by have h_ := c6; simp only [ByteArray.size_append] at h_; exact h_))))
          (try (have c6b4 : (1 + a0_1.size + 1 ≤ 9223372036854775807) = True := eq_true (by have h_ := c6; simp only [ByteArray.size_append] at h_; exact h_)))
          try have c6b2 : (9223372036854775807 < ((⟨#[34]⟩ : ByteArray) ++ a0_1).size + 1) = False := eq_false (Nat.not_lt.2 c6)
          simp only [Option.some.injEq, Prod.mk.injEq] at H
          obtain ⟨rfl, rfl⟩ := H
          go_enter Tryd.func35, Tryd.ntmps35
          go_wp2_with (first | ((with_reducible refine gate_dst (N := 1) rfl ?_); refine box_event ?hg (N := 1) ?hd (cs := #[.int .i64 a0_0, .string a0_1, .int .i64 a0_2, .int .i64 a0_3]) (t := 46) ?hr ?_; (case hd => rfl); (case hg => rfl); (case hr => first | (go_simp; done) | (go_simp; rfl)); intro gb358 hg w7 hbox hb; have n0_ := Aside0.mk (below_step (bl_ HB.out) hb); have n1_ := Aside0.mk (hbox); have n2_ := Aside0.mk ((by rw [hg]; exact (below_size (bl_ HB.out)) : w.heap.size ≤ gb358)); have n3_ := Aside0.mk ((by rw [hg]; exact (below_size (bl_ HB.out)) : w.heap.size ≤ gb358)); clear HB; have HB := n0_; have BK358 := n1_; have GW358 := n2_; have GE358 := n3_; clear n0_ n1_ n2_ n3_; clear hb hbox hg; have hcz8_0 : w7.cell? ⟨gb358, 0, none⟩ = some (.int .i64 a0_0) := (blk_cell BK358.out 0).trans rfl; have hcz8_1 : w7.cell? ⟨gb358, 1, none⟩ = some (.string a0_1) := (blk_cell BK358.out 1).trans rfl; have hcz8_2 : w7.cell? ⟨gb358, 2, none⟩ = some (.int .i64 a0_2) := (blk_cell BK358.out 2).trans rfl; have hcz8_3 : w7.cell? ⟨gb358, 3, none⟩ = some (.int .i64 a0_3) := (blk_cell BK358.out 3).trans rfl; have hfz8_0 := blk_frozen BK358.out 0; have hfz8_1 := blk_frozen BK358.out 1; have hfz8_2 := blk_frozen BK358.out 2; have hfz8_3 := blk_frozen BK358.out 3) | ((with_reducible refine gate_callee (f := 36) rfl ?_); refine goesL_ (some 8) rfl rfl Tryd.func36 (by kernel_rfl) rfl #[.agg #[.int .i64 a0_0, .string a0_1, .int .i64 a0_2, .int .i64 a0_3]] rfl (by (try simp only [List.map_toArray, List.map_cons, List.map_nil]); first | done | rfl | (simp only [List.length_drop, List.length_take]; rfl)) ?_; (with_reducible refine (lexer_Valid.calls k a0_0 a0_1 a0_2 a0_3 true _ A2.out).mono ?_); rintro e w9 ⟨rfl, hb⟩; refine ⟨_, rfl, ?_⟩; have n0_ := Aside0.mk (blk_below (g := gb358) (o := .cells #[.int .i64 a0_0, .string a0_1, .int .i64 a0_2, .int .i64 a0_3] 46 (0, 0)) (bk_ BK358.out) hb); have n1_ := Aside0.mk (below_step (bl1_ HB.out GE358.out) hb); clear BK358; clear HB; have BK358 := n0_; have HB := n1_; clear n0_ n1_; (try clear hb); (try clear hb2); (try clear hk); (try clear hi); have hcz10_0 : w9.cell? ⟨gb358, 0, none⟩ = some (.int .i64 a0_0) := (blk_cell BK358.out 0).trans rfl; have hcz10_1 : w9.cell? ⟨gb358, 1, none⟩ = some (.string a0_1) := (blk_cell BK358.out 1).trans rfl; have hcz10_2 : w9.cell? ⟨gb358, 2, none⟩ = some (.int .i64 a0_2) := (blk_cell BK358.out 2).trans rfl; have hcz10_3 : w9.cell? ⟨gb358, 3, none⟩ = some (.int .i64 a0_3) := (blk_cell BK358.out 3).trans rfl; have hfz10_0 := blk_frozen BK358.out 0; have hfz10_1 := blk_frozen BK358.out 1; have hfz10_2 := blk_frozen BK358.out 2; have hfz10_3 := blk_frozen BK358.out 3))
          go_ret2
          exact ⟨er_, bl1_ HB.out GE358.out⟩
        · rw [if_neg c6] at H
          exact absurd H (by simp)
      · rw [if_neg c5] at H
        exact absurd H (by simp)
    · rw [if_neg c4] at H
      have c4b0 : (a0_0 == 3) = false := beq_eq_false_iff_ne.mpr c4
      have c4b1 : (a0_0 != 3) = true := bne_iff_ne.mpr c4
      by_cases c11 : a0_0 = 2
      · rw [if_pos c11] at H
        have c11b0 : (a0_0 == 2) = true := beq_iff_eq.mpr c11
        have c11b1 : (a0_0 != 2) = false := bne_eq_false_iff_eq.mpr c11
        clear c11
        replace H := Option.bind_eq_some_iff.mp H
        obtain ⟨t360, A120, H⟩ := H
        replace H : ((strconv_FormatInt.f (wrap64 (Int.tdiv a0_2 1000)) 10).bind fun t361 => (if 0 ≤ (wrap64 ((t360.size : Int) - 3)) then (if (wrap64 ((t360.size : Int) - 3)) ≤ (t360.size : Int) then ((strings_TrimRight.f (t360.extract ((wrap64 ((t360.size : Int) - 3)) : Int).toNat t360.size) (⟨#[48]⟩ : ByteArray)).bind fun t362 => (if t362.toList = ([] : List UInt8) then (some (t361, 0)) else (if t361.size + 1 ≤ 9223372036854775807 then (if (t361 ++ (⟨#[46]⟩ : ByteArray)).size + t362.size ≤ 9223372036854775807 then (some ((t361 ++ (⟨#[46]⟩ : ByteArray)) ++ t362, 0)) else (none)) else (none)))) else (none)) else (none))) = some (r1, r2) := H
        have A12 := Aside0.mk A120
        clear A120
        replace H := Option.bind_eq_some_iff.mp H
        obtain ⟨t361, A130, H⟩ := H
        replace H : (if 0 ≤ (wrap64 ((t360.size : Int) - 3)) then (if (wrap64 ((t360.size : Int) - 3)) ≤ (t360.size : Int) then ((strings_TrimRight.f (t360.extract ((wrap64 ((t360.size : Int) - 3)) : Int).toNat t360.size) (⟨#[48]⟩ : ByteArray)).bind fun t362 => (if t362.toList = ([] : List UInt8) then (some (t361, 0)) else (if t361.size + 1 ≤ 9223372036854775807 then (if (t361 ++ (⟨#[46]⟩ : ByteArray)).size + t362.size ≤ 9223372036854775807 then (some ((t361 ++ (⟨#[46]⟩ : ByteArray)) ++ t362, 0)) else (none)) else (none)))) else (none)) else (none)) = some (r1, r2) := H
        have A13 := Aside0.mk A130
        clear A130
        obtain ⟨ji14, hji14⟩ : ∃ j_ : Int, (wrap64 ((t360.size : Int) - 3)) = j_ := ⟨_, rfl⟩
        replace H : (if 0 ≤ (ji14) then (if (ji14) ≤ (t360.size : Int) then ((strings_TrimRight.f (t360.extract ((ji14) : Int).toNat t360.size) (⟨#[48]⟩ : ByteArray)).bind fun t362 => (if t362.toList = ([] : List UInt8) then (some (t361, 0)) else (if t361.size + 1 ≤ 9223372036854775807 then (if (t361 ++ (⟨#[46]⟩ : ByteArray)).size + t362.size ≤ 9223372036854775807 then (some ((t361 ++ (⟨#[46]⟩ : ByteArray)) ++ t362, 0)) else (none)) else (none)))) else (none)) else (none)) = some (r1, r2) := by first | (rw [hji14] at H; exact H) | (simp only [hji14] at H ⊢; exact H)
        (try rw [hji14] at A2)
        (try rw [hji14] at A12)
        (try rw [hji14] at A13)
        have hji14w : (IntKind.i64.wrap ((t360.size : Int) - 3)) = ji14 := (i64_w _).trans hji14
        by_cases c15 : 0 ≤ (ji14)
        · rw [if_pos c15] at H
          have c15b0 := eq_true c15
          have c15b1 : decide (0 ≤ (ji14)) = true := decide_eq_true c15
          clear c15
          by_cases c16 : (ji14) ≤ (t360.size : Int)
          · rw [if_pos c16] at H
            have c16b0 := eq_true c16
            have c16b1 : decide ((ji14) ≤ (t360.size : Int)) = true := decide_eq_true c16
            clear c16
            replace H := Option.bind_eq_some_iff.mp H
            obtain ⟨t362, A170, H⟩ := H
            replace H : (if t362.toList = ([] : List UInt8) then (some (t361, 0)) else (if t361.size + 1 ≤ 9223372036854775807 then (if (t361 ++ (⟨#[46]⟩ : ByteArray)).size + t362.size ≤ 9223372036854775807 then (some ((t361 ++ (⟨#[46]⟩ : ByteArray)) ++ t362, 0)) else (none)) else (none))) = some (r1, r2) := H
            have A17 := Aside0.mk A170
            clear A170
            by_cases c18 : t362.toList = ([] : List UInt8)
            · rw [if_pos c18] at H
              have c18b0 : (t362.toList == ([] : List UInt8)) = true := beq_iff_eq.mpr c18
              have c18b1 : (t362.toList != ([] : List UInt8)) = false := bne_eq_false_iff_eq.mpr c18
              clear c18
              simp only [Option.some.injEq, Prod.mk.injEq] at H
              obtain ⟨rfl, rfl⟩ := H
              go_enter Tryd.func35, Tryd.ntmps35
              go_wp2_with (first | ((with_reducible refine gate_dst (N := 1) rfl ?_); refine box_event ?hg (N := 1) ?hd (cs := #[.int .i64 a0_0, .string a0_1, .int .i64 a0_2, .int .i64 a0_3]) (t := 46) ?hr ?_; (case hd => rfl); (case hg => rfl); (case hr => first | (go_simp; done) | (go_simp; rfl)); intro gb358 hg w19 hbox hb; have n0_ := Aside0.mk (below_step (bl_ HB.out) hb); have n1_ := Aside0.mk (hbox); have n2_ := Aside0.mk ((by rw [hg]; exact (below_size (bl_ HB.out)) : w.heap.size ≤ gb358)); have n3_ := Aside0.mk ((by rw [hg]; exact (below_size (bl_ HB.out)) : w.heap.size ≤ gb358)); clear HB; have HB := n0_; have BK358 := n1_; have GW358 := n2_; have GE358 := n3_; clear n0_ n1_ n2_ n3_; clear hb hbox hg; have hcz20_0 : w19.cell? ⟨gb358, 0, none⟩ = some (.int .i64 a0_0) := (blk_cell BK358.out 0).trans rfl; have hcz20_1 : w19.cell? ⟨gb358, 1, none⟩ = some (.string a0_1) := (blk_cell BK358.out 1).trans rfl; have hcz20_2 : w19.cell? ⟨gb358, 2, none⟩ = some (.int .i64 a0_2) := (blk_cell BK358.out 2).trans rfl; have hcz20_3 : w19.cell? ⟨gb358, 3, none⟩ = some (.int .i64 a0_3) := (blk_cell BK358.out 3).trans rfl; have hfz20_0 := blk_frozen BK358.out 0; have hfz20_1 := blk_frozen BK358.out 1; have hfz20_2 := blk_frozen BK358.out 2; have hfz20_3 := blk_frozen BK358.out 3) | ((with_reducible refine gate_callee (f := 36) rfl ?_); refine goesL_ (some 8) rfl rfl Tryd.func36 (by kernel_rfl) rfl #[.agg #[.int .i64 a0_0, .string a0_1, .int .i64 a0_2, .int .i64 a0_3]] rfl (by (try simp only [List.map_toArray, List.map_cons, List.map_nil]); first | done | rfl | (simp only [List.length_drop, List.length_take]; rfl)) ?_; (with_reducible refine (lexer_Valid.calls k a0_0 a0_1 a0_2 a0_3 true _ A2.out).mono ?_); rintro e w21 ⟨rfl, hb⟩; refine ⟨_, rfl, ?_⟩; have n0_ := Aside0.mk (blk_below (g := gb358) (o := .cells #[.int .i64 a0_0, .string a0_1, .int .i64 a0_2, .int .i64 a0_3] 46 (0, 0)) (bk_ BK358.out) hb); have n1_ := Aside0.mk (below_step (bl1_ HB.out GE358.out) hb); clear BK358; clear HB; have BK358 := n0_; have HB := n1_; clear n0_ n1_; (try clear hb); (try clear hb2); (try clear hk); (try clear hi); have hcz22_0 : w21.cell? ⟨gb358, 0, none⟩ = some (.int .i64 a0_0) := (blk_cell BK358.out 0).trans rfl; have hcz22_1 : w21.cell? ⟨gb358, 1, none⟩ = some (.string a0_1) := (blk_cell BK358.out 1).trans rfl; have hcz22_2 : w21.cell? ⟨gb358, 2, none⟩ = some (.int .i64 a0_2) := (blk_cell BK358.out 2).trans rfl; have hcz22_3 : w21.cell? ⟨gb358, 3, none⟩ = some (.int .i64 a0_3) := (blk_cell BK358.out 3).trans rfl; have hfz22_0 := blk_frozen BK358.out 0; have hfz22_1 := blk_frozen BK358.out 1; have hfz22_2 := blk_frozen BK358.out 2; have hfz22_3 := blk_frozen BK358.out 3) | ((with_reducible refine gate_callee (f := 61) rfl ?_); refine goesL_ (some 23) rfl rfl Tryd.func61 (by kernel_rfl) rfl #[.int .i64 (wrap64 (a0_2 + 1000)), .int .i64 10] rfl (by (try simp only [List.map_toArray, List.map_cons, List.map_nil]); first | done | rfl | (simp only [List.length_drop, List.length_take]; rfl)) ?_; (with_reducible refine (strconv_FormatInt.calls (wrap64 (a0_2 + 1000)) 10 t360 _ ?side1 A12.out).mono ?_); (case side1 => exact Gl.below hG (bl1_ HB.out GE358.out)); rintro e w23 ⟨rfl, hb⟩; refine ⟨_, rfl, ?_⟩; have n0_ := Aside0.mk (blk_below (g := gb358) (o := .cells #[.int .i64 a0_0, .string a0_1, .int .i64 a0_2, .int .i64 a0_3] 46 (0, 0)) (bk_ BK358.out) hb); have n1_ := Aside0.mk (below_step (bl1_ HB.out GE358.out) hb); clear BK358; clear HB; have BK358 := n0_; have HB := n1_; clear n0_ n1_; (try clear hb); (try clear hb2); (try clear hk); (try clear hi); have hcz24_0 : w23.cell? ⟨gb358, 0, none⟩ = some (.int .i64 a0_0) := (blk_cell BK358.out 0).trans rfl; have hcz24_1 : w23.cell? ⟨gb358, 1, none⟩ = some (.string a0_1) := (blk_cell BK358.out 1).trans rfl; have hcz24_2 : w23.cell? ⟨gb358, 2, none⟩ = some (.int .i64 a0_2) := (blk_cell BK358.out 2).trans rfl; have hcz24_3 : w23.cell? ⟨gb358, 3, none⟩ = some (.int .i64 a0_3) := (blk_cell BK358.out 3).trans rfl; have hfz24_0 := blk_frozen BK358.out 0; have hfz24_1 := blk_frozen BK358.out 1; have hfz24_2 := blk_frozen BK358.out 2; have hfz24_3 := blk_frozen BK358.out 3) | ((with_reducible refine gate_callee (f := 61) rfl ?_); refine goesL_ (some 27) rfl rfl Tryd.func61 (by kernel_rfl) rfl #[.int .i64 (wrap64 (Int.tdiv a0_2 1000)), .int .i64 10] rfl (by (try simp only [List.map_toArray, List.map_cons, List.map_nil]); first | done | rfl | (simp only [List.length_drop, List.length_take]; rfl)) ?_; (with_reducible refine (strconv_FormatInt.calls (wrap64 (Int.tdiv a0_2 1000)) 10 t361 _ ?side1 A13.out).mono ?_); (case side1 => exact Gl.below hG (bl1_ HB.out GE358.out)); rintro e w25 ⟨rfl, hb⟩; refine ⟨_, rfl, ?_⟩; have n0_ := Aside0.mk (blk_below (g := gb358) (o := .cells #[.int .i64 a0_0, .string a0_1, .int .i64 a0_2, .int .i64 a0_3] 46 (0, 0)) (bk_ BK358.out) hb); have n1_ := Aside0.mk (below_step (bl1_ HB.out GE358.out) hb); clear BK358; clear HB; have BK358 := n0_; have HB := n1_; clear n0_ n1_; (try clear hb); (try clear hb2); (try clear hk); (try clear hi)) | ((with_reducible refine gate_callee (f := 62) rfl ?_); refine goesL_ (some 33) rfl rfl Tryd.func62 (by kernel_rfl) rfl #[.string (t360.extract ((ji14) : Int).toNat t360.size), .string (⟨#[48]⟩ : ByteArray)] rfl (by (try simp only [List.map_toArray, List.map_cons, List.map_nil]); first | done | (simp only [hji14]; rfl) | rfl | (simp only [List.length_drop, List.length_take]; rfl)) ?_; (with_reducible refine (strings_TrimRight.calls (t360.extract ((ji14) : Int).toNat t360.size) (⟨#[48]⟩ : ByteArray) t362 _ A17.out).mono ?_); rintro e w26 ⟨rfl, hb⟩; refine ⟨_, rfl, ?_⟩; have n0_ := Aside0.mk (blk_below (g := gb358) (o := .cells #[.int .i64 a0_0, .string a0_1, .int .i64 a0_2, .int .i64 a0_3] 46 (0, 0)) (bk_ BK358.out) hb); have n1_ := Aside0.mk (below_step (bl1_ HB.out GE358.out) hb); clear BK358; clear HB; have BK358 := n0_; have HB := n1_; clear n0_ n1_; (try clear hb); (try clear hb2); (try clear hk); (try clear hi)))
              go_ret2
              exact ⟨by first | rfl | (simp [errW_none, errW_some] <;> rfl) | (simp only [← hji14]; first | rfl | (simp [errW_none, errW_some] <;> rfl)) | (simp [*, errW_none, errW_some] <;> rfl), bl1_ HB.out GE358.out⟩
            · rw [if_neg c18] at H
              have c18b0 : (t362.toList == ([] : List UInt8)) = false := beq_eq_false_iff_ne.mpr c18
              have c18b1 : (t362.toList != ([] : List UInt8)) = true := bne_iff_ne.mpr c18
              by_cases c27 : t361.size + 1 ≤ 9223372036854775807
              · rw [if_pos c27] at H
                have c27b0 := eq_true c27
                have c27b1 : decide (t361.size + 1 ≤ 9223372036854775807) = true := decide_eq_true c27
                try have c27b2 : (9223372036854775807 < t361.size + 1) = False := eq_false (Nat.not_lt.2 c27)
                by_cases c28 : (t361 ++ (⟨#[46]⟩ : ByteArray)).size + t362.size ≤ 9223372036854775807
                · rw [if_pos c28] at H
                  have c28b0 := eq_true c28
                  have c28b1 : decide ((t361 ++ (⟨#[46]⟩ : ByteArray)).size + t362.size ≤ 9223372036854775807) = true := decide_eq_true c28
                  (try (have c28b3 : (9223372036854775807 < t361.size + 1 + t362.size) = False := eq_false (Nat.not_lt.2 (by have h_ := c28; simp only [ByteArray.size_append] at h_; exact h_))))
                  (try (have c28b4 : (t361.size + 1 + t362.size ≤ 9223372036854775807) = True := eq_true (by have h_ := c28; simp only [ByteArray.size_append] at h_; exact h_)))
                  try have c28b2 : (9223372036854775807 < (t361 ++ (⟨#[46]⟩ : ByteArray)).size + t362.size) = False := eq_false (Nat.not_lt.2 c28)
                  simp only [Option.some.injEq, Prod.mk.injEq] at H
                  obtain ⟨rfl, rfl⟩ := H
                  go_enter Tryd.func35, Tryd.ntmps35
                  go_wp2_with (first | ((with_reducible refine gate_dst (N := 1) rfl ?_); refine box_event ?hg (N := 1) ?hd (cs := #[.int .i64 a0_0, .string a0_1, .int .i64 a0_2, .int .i64 a0_3]) (t := 46) ?hr ?_; (case hd => rfl); (case hg => rfl); (case hr => first | (go_simp; done) | (go_simp; rfl)); intro gb358 hg w29 hbox hb; have n0_ := Aside0.mk (below_step (bl_ HB.out) hb); have n1_ := Aside0.mk (hbox); have n2_ := Aside0.mk ((by rw [hg]; exact (below_size (bl_ HB.out)) : w.heap.size ≤ gb358)); have n3_ := Aside0.mk ((by rw [hg]; exact (below_size (bl_ HB.out)) : w.heap.size ≤ gb358)); clear HB; have HB := n0_; have BK358 := n1_; have GW358 := n2_; have GE358 := n3_; clear n0_ n1_ n2_ n3_; clear hb hbox hg; have hcz30_0 : w29.cell? ⟨gb358, 0, none⟩ = some (.int .i64 a0_0) := (blk_cell BK358.out 0).trans rfl; have hcz30_1 : w29.cell? ⟨gb358, 1, none⟩ = some (.string a0_1) := (blk_cell BK358.out 1).trans rfl; have hcz30_2 : w29.cell? ⟨gb358, 2, none⟩ = some (.int .i64 a0_2) := (blk_cell BK358.out 2).trans rfl; have hcz30_3 : w29.cell? ⟨gb358, 3, none⟩ = some (.int .i64 a0_3) := (blk_cell BK358.out 3).trans rfl; have hfz30_0 := blk_frozen BK358.out 0; have hfz30_1 := blk_frozen BK358.out 1; have hfz30_2 := blk_frozen BK358.out 2; have hfz30_3 := blk_frozen BK358.out 3) | ((with_reducible refine gate_callee (f := 36) rfl ?_); refine goesL_ (some 8) rfl rfl Tryd.func36 (by kernel_rfl) rfl #[.agg #[.int .i64 a0_0, .string a0_1, .int .i64 a0_2, .int .i64 a0_3]] rfl (by (try simp only [List.map_toArray, List.map_cons, List.map_nil]); first | done | rfl | (simp only [List.length_drop, List.length_take]; rfl)) ?_; (with_reducible refine (lexer_Valid.calls k a0_0 a0_1 a0_2 a0_3 true _ A2.out).mono ?_); rintro e w31 ⟨rfl, hb⟩; refine ⟨_, rfl, ?_⟩; have n0_ := Aside0.mk (blk_below (g := gb358) (o := .cells #[.int .i64 a0_0, .string a0_1, .int .i64 a0_2, .int .i64 a0_3] 46 (0, 0)) (bk_ BK358.out) hb); have n1_ := Aside0.mk (below_step (bl1_ HB.out GE358.out) hb); clear BK358; clear HB; have BK358 := n0_; have HB := n1_; clear n0_ n1_; (try clear hb); (try clear hb2); (try clear hk); (try clear hi); have hcz32_0 : w31.cell? ⟨gb358, 0, none⟩ = some (.int .i64 a0_0) := (blk_cell BK358.out 0).trans rfl; have hcz32_1 : w31.cell? ⟨gb358, 1, none⟩ = some (.string a0_1) := (blk_cell BK358.out 1).trans rfl; have hcz32_2 : w31.cell? ⟨gb358, 2, none⟩ = some (.int .i64 a0_2) := (blk_cell BK358.out 2).trans rfl; have hcz32_3 : w31.cell? ⟨gb358, 3, none⟩ = some (.int .i64 a0_3) := (blk_cell BK358.out 3).trans rfl; have hfz32_0 := blk_frozen BK358.out 0; have hfz32_1 := blk_frozen BK358.out 1; have hfz32_2 := blk_frozen BK358.out 2; have hfz32_3 := blk_frozen BK358.out 3) | ((with_reducible refine gate_callee (f := 61) rfl ?_); refine goesL_ (some 23) rfl rfl Tryd.func61 (by kernel_rfl) rfl #[.int .i64 (wrap64 (a0_2 + 1000)), .int .i64 10] rfl (by (try simp only [List.map_toArray, List.map_cons, List.map_nil]); first | done | rfl | (simp only [List.length_drop, List.length_take]; rfl)) ?_; (with_reducible refine (strconv_FormatInt.calls (wrap64 (a0_2 + 1000)) 10 t360 _ ?side1 A12.out).mono ?_); (case side1 => exact Gl.below hG (bl1_ HB.out GE358.out)); rintro e w33 ⟨rfl, hb⟩; refine ⟨_, rfl, ?_⟩; have n0_ := Aside0.mk (blk_below (g := gb358) (o := .cells #[.int .i64 a0_0, .string a0_1, .int .i64 a0_2, .int .i64 a0_3] 46 (0, 0)) (bk_ BK358.out) hb); have n1_ := Aside0.mk (below_step (bl1_ HB.out GE358.out) hb); clear BK358; clear HB; have BK358 := n0_; have HB := n1_; clear n0_ n1_; (try clear hb); (try clear hb2); (try clear hk); (try clear hi); have hcz34_0 : w33.cell? ⟨gb358, 0, none⟩ = some (.int .i64 a0_0) := (blk_cell BK358.out 0).trans rfl; have hcz34_1 : w33.cell? ⟨gb358, 1, none⟩ = some (.string a0_1) := (blk_cell BK358.out 1).trans rfl; have hcz34_2 : w33.cell? ⟨gb358, 2, none⟩ = some (.int .i64 a0_2) := (blk_cell BK358.out 2).trans rfl; have hcz34_3 : w33.cell? ⟨gb358, 3, none⟩ = some (.int .i64 a0_3) := (blk_cell BK358.out 3).trans rfl; have hfz34_0 := blk_frozen BK358.out 0; have hfz34_1 := blk_frozen BK358.out 1; have hfz34_2 := blk_frozen BK358.out 2; have hfz34_3 := blk_frozen BK358.out 3) | ((with_reducible refine gate_callee (f := 61) rfl ?_); refine goesL_ (some 27) rfl rfl Tryd.func61 (by kernel_rfl) rfl #[.int .i64 (wrap64 (Int.tdiv a0_2 1000)), .int .i64 10] rfl (by (try simp only [List.map_toArray, List.map_cons, List.map_nil]); first | done | rfl | (simp only [List.length_drop, List.length_take]; rfl)) ?_; (with_reducible refine (strconv_FormatInt.calls (wrap64 (Int.tdiv a0_2 1000)) 10 t361 _ ?side1 A13.out).mono ?_); (case side1 => exact Gl.below hG (bl1_ HB.out GE358.out)); rintro e w35 ⟨rfl, hb⟩; refine ⟨_, rfl, ?_⟩; have n0_ := Aside0.mk (blk_below (g := gb358) (o := .cells #[.int .i64 a0_0, .string a0_1, .int .i64 a0_2, .int .i64 a0_3] 46 (0, 0)) (bk_ BK358.out) hb); have n1_ := Aside0.mk (below_step (bl1_ HB.out GE358.out) hb); clear BK358; clear HB; have BK358 := n0_; have HB := n1_; clear n0_ n1_; (try clear hb); (try clear hb2); (try clear hk); (try clear hi)) | ((with_reducible refine gate_callee (f := 62) rfl ?_); refine goesL_ (some 33) rfl rfl Tryd.func62 (by kernel_rfl) rfl #[.string (t360.extract ((ji14) : Int).toNat t360.size), .string (⟨#[48]⟩ : ByteArray)] rfl (by (try simp only [List.map_toArray, List.map_cons, List.map_nil]); first | done | (simp only [hji14]; rfl) | rfl | (simp only [List.length_drop, List.length_take]; rfl)) ?_; (with_reducible refine (strings_TrimRight.calls (t360.extract ((ji14) : Int).toNat t360.size) (⟨#[48]⟩ : ByteArray) t362 _ A17.out).mono ?_); rintro e w36 ⟨rfl, hb⟩; refine ⟨_, rfl, ?_⟩; have n0_ := Aside0.mk (blk_below (g := gb358) (o := .cells #[.int .i64 a0_0, .string a0_1, .int .i64 a0_2, .int .i64 a0_3] 46 (0, 0)) (bk_ BK358.out) hb); have n1_ := Aside0.mk (below_step (bl1_ HB.out GE358.out) hb); clear BK358; clear HB; have BK358 := n0_; have HB := n1_; clear n0_ n1_; (try clear hb); (try clear hb2); (try clear hk); (try clear hi)))
                  go_ret2
                  exact ⟨by first | rfl | (simp [errW_none, errW_some] <;> rfl) | (simp only [← hji14]; first | rfl | (simp [errW_none, errW_some] <;> rfl)) | (simp [*, errW_none, errW_some] <;> rfl), bl1_ HB.out GE358.out⟩
                · rw [if_neg c28] at H
                  exact absurd H (by simp)
              · rw [if_neg c27] at H
                exact absurd H (by simp)
          · rw [if_neg c16] at H
            exact absurd H (by simp)
        · rw [if_neg c15] at H
          exact absurd H (by simp)
      · rw [if_neg c11] at H
        have c11b0 : (a0_0 == 2) = false := beq_eq_false_iff_ne.mpr c11
        have c11b1 : (a0_0 != 2) = true := bne_iff_ne.mpr c11
        simp only [Option.some.injEq, Prod.mk.injEq] at H
        obtain ⟨rfl, rfl⟩ := H
        go_enter Tryd.func35, Tryd.ntmps35
        go_wp2_with (first | ((with_reducible refine gate_dst (N := 1) rfl ?_); refine box_event ?hg (N := 1) ?hd (cs := #[.int .i64 a0_0, .string a0_1, .int .i64 a0_2, .int .i64 a0_3]) (t := 46) ?hr ?_; (case hd => rfl); (case hg => rfl); (case hr => first | (go_simp; done) | (go_simp; rfl)); intro gb358 hg w37 hbox hb; have n0_ := Aside0.mk (below_step (bl_ HB.out) hb); have n1_ := Aside0.mk (hbox); have n2_ := Aside0.mk ((by rw [hg]; exact (below_size (bl_ HB.out)) : w.heap.size ≤ gb358)); have n3_ := Aside0.mk ((by rw [hg]; exact (below_size (bl_ HB.out)) : w.heap.size ≤ gb358)); clear HB; have HB := n0_; have BK358 := n1_; have GW358 := n2_; have GE358 := n3_; clear n0_ n1_ n2_ n3_; clear hb hbox hg; have hcz38_0 : w37.cell? ⟨gb358, 0, none⟩ = some (.int .i64 a0_0) := (blk_cell BK358.out 0).trans rfl; have hcz38_1 : w37.cell? ⟨gb358, 1, none⟩ = some (.string a0_1) := (blk_cell BK358.out 1).trans rfl; have hcz38_2 : w37.cell? ⟨gb358, 2, none⟩ = some (.int .i64 a0_2) := (blk_cell BK358.out 2).trans rfl; have hcz38_3 : w37.cell? ⟨gb358, 3, none⟩ = some (.int .i64 a0_3) := (blk_cell BK358.out 3).trans rfl; have hfz38_0 := blk_frozen BK358.out 0; have hfz38_1 := blk_frozen BK358.out 1; have hfz38_2 := blk_frozen BK358.out 2; have hfz38_3 := blk_frozen BK358.out 3) | ((with_reducible refine gate_callee (f := 36) rfl ?_); refine goesL_ (some 8) rfl rfl Tryd.func36 (by kernel_rfl) rfl #[.agg #[.int .i64 a0_0, .string a0_1, .int .i64 a0_2, .int .i64 a0_3]] rfl (by (try simp only [List.map_toArray, List.map_cons, List.map_nil]); first | done | rfl | (simp only [List.length_drop, List.length_take]; rfl)) ?_; (with_reducible refine (lexer_Valid.calls k a0_0 a0_1 a0_2 a0_3 true _ A2.out).mono ?_); rintro e w39 ⟨rfl, hb⟩; refine ⟨_, rfl, ?_⟩; have n0_ := Aside0.mk (blk_below (g := gb358) (o := .cells #[.int .i64 a0_0, .string a0_1, .int .i64 a0_2, .int .i64 a0_3] 46 (0, 0)) (bk_ BK358.out) hb); have n1_ := Aside0.mk (below_step (bl1_ HB.out GE358.out) hb); clear BK358; clear HB; have BK358 := n0_; have HB := n1_; clear n0_ n1_; (try clear hb); (try clear hb2); (try clear hk); (try clear hi); have hcz40_0 : w39.cell? ⟨gb358, 0, none⟩ = some (.int .i64 a0_0) := (blk_cell BK358.out 0).trans rfl; have hcz40_1 : w39.cell? ⟨gb358, 1, none⟩ = some (.string a0_1) := (blk_cell BK358.out 1).trans rfl; have hcz40_2 : w39.cell? ⟨gb358, 2, none⟩ = some (.int .i64 a0_2) := (blk_cell BK358.out 2).trans rfl; have hcz40_3 : w39.cell? ⟨gb358, 3, none⟩ = some (.int .i64 a0_3) := (blk_cell BK358.out 3).trans rfl; have hfz40_0 := blk_frozen BK358.out 0; have hfz40_1 := blk_frozen BK358.out 1; have hfz40_2 := blk_frozen BK358.out 2; have hfz40_3 := blk_frozen BK358.out 3))
        go_ret2
        exact ⟨er_, bl1_ HB.out GE358.out⟩
  · replace c3 := Bool.eq_false_iff.mpr c3
    subst c3
    have H1 : (some ((⟨#[]⟩ : ByteArray), 1)) = some (r1, r2) := by rw [if_neg (show ¬ (false = true) by decide)] at H; exact H
    clear H
    have H := H1
    clear H1
    simp only [Option.some.injEq, Prod.mk.injEq] at H
    obtain ⟨rfl, rfl⟩ := H
    go_enter Tryd.func35, Tryd.ntmps35
    go_wp2_with (first | ((with_reducible refine gate_dst (N := 1) rfl ?_); refine box_event ?hg (N := 1) ?hd (cs := #[.int .i64 a0_0, .string a0_1, .int .i64 a0_2, .int .i64 a0_3]) (t := 46) ?hr ?_; (case hd => rfl); (case hg => rfl); (case hr => first | (go_simp; done) | (go_simp; rfl)); intro gb358 hg w41 hbox hb; have n0_ := Aside0.mk (below_step (bl_ HB.out) hb); have n1_ := Aside0.mk (hbox); have n2_ := Aside0.mk ((by rw [hg]; exact (below_size (bl_ HB.out)) : w.heap.size ≤ gb358)); have n3_ := Aside0.mk ((by rw [hg]; exact (below_size (bl_ HB.out)) : w.heap.size ≤ gb358)); clear HB; have HB := n0_; have BK358 := n1_; have GW358 := n2_; have GE358 := n3_; clear n0_ n1_ n2_ n3_; clear hb hbox hg; have hcz42_0 : w41.cell? ⟨gb358, 0, none⟩ = some (.int .i64 a0_0) := (blk_cell BK358.out 0).trans rfl; have hcz42_1 : w41.cell? ⟨gb358, 1, none⟩ = some (.string a0_1) := (blk_cell BK358.out 1).trans rfl; have hcz42_2 : w41.cell? ⟨gb358, 2, none⟩ = some (.int .i64 a0_2) := (blk_cell BK358.out 2).trans rfl; have hcz42_3 : w41.cell? ⟨gb358, 3, none⟩ = some (.int .i64 a0_3) := (blk_cell BK358.out 3).trans rfl; have hfz42_0 := blk_frozen BK358.out 0; have hfz42_1 := blk_frozen BK358.out 1; have hfz42_2 := blk_frozen BK358.out 2; have hfz42_3 := blk_frozen BK358.out 3) | ((with_reducible refine gate_callee (f := 36) rfl ?_); refine goesL_ (some 8) rfl rfl Tryd.func36 (by kernel_rfl) rfl #[.agg #[.int .i64 a0_0, .string a0_1, .int .i64 a0_2, .int .i64 a0_3]] rfl (by (try simp only [List.map_toArray, List.map_cons, List.map_nil]); first | done | rfl | (simp only [List.length_drop, List.length_take]; rfl)) ?_; (with_reducible refine (lexer_Valid.calls k a0_0 a0_1 a0_2 a0_3 false _ A2.out).mono ?_); rintro e w43 ⟨rfl, hb⟩; refine ⟨_, rfl, ?_⟩; have n0_ := Aside0.mk (blk_below (g := gb358) (o := .cells #[.int .i64 a0_0, .string a0_1, .int .i64 a0_2, .int .i64 a0_3] 46 (0, 0)) (bk_ BK358.out) hb); have n1_ := Aside0.mk (below_step (bl1_ HB.out GE358.out) hb); clear BK358; clear HB; have BK358 := n0_; have HB := n1_; clear n0_ n1_; (try clear hb); (try clear hb2); (try clear hk); (try clear hi)))
    go_ret2
    exact ⟨er_, bl1_ HB.out GE358.out⟩
end Go.Proofs.YtkifdadhojbohaaDoor.Pr
namespace Go.Proofs.YtkifdadhojbohaaDoor.Pr
open Go.Proofs.YtkifdadhojbohaaDoor
open Go.RowKit Go.Proofs.YtkifdadhojbohaaDoorW.PrintWords Go.Proofs.YtkifdadhojbohaaDoorW.PrintLast Go.Proofs.YtkifdadhojbohaaDoorW.PrintMore
attribute [local go_sem] max2_int min2_int max_two min_two max_three min_three max_four min_four   -- for this text's walks alone
set_option linter.unusedVariables false
set_option linter.unusedSimpArgs false
/-! ### lexer_Place: function 39 -/
def lexer_Place.f (a0 : ByteArray) (a1 : Int) : Option (Int × Int) := if 0 ≤ (mx 0 (mn a1 (a0.size : Int))) then (if (mx 0 (mn a1 (a0.size : Int))) ≤ (a0.size : Int) then ((strings_Count.f (a0.extract 0 ((mx 0 (mn a1 (a0.size : Int))) : Int).toNat) (⟨#[10]⟩ : ByteArray)).bind fun t363 => ((strings_LastIndexByte.f (a0.extract 0 ((mx 0 (mn a1 (a0.size : Int))) : Int).toNat) 10).bind fun t364 => (some (wrap64 (t363 + 1), wrap64 (((a0.extract 0 ((mx 0 (mn a1 (a0.size : Int))) : Int).toNat).size : Int) - t364))))) else (none)) else (none)
set_option maxHeartbeats 8000000 in
set_option maxRecDepth 100000 in
theorem lexer_Place.calls (a0 : ByteArray) (a1 : Int) (r1 : Int) (r2 : Int) (w : World) (h : lexer_Place.f a0 a1 = some (r1, r2)) :
    Calls Tryd.prog 39 #[.string a0, .int .i64 a1] w fun e w' => e = .returned (.tuple #[.int .i64 r1, .int .i64 r2]) ∧ Below w.heap.size w w' := by
  have HB := Aside0.mk (Below.refl w.heap.size w)
  have H : (if 0 ≤ (mx 0 (mn a1 (a0.size : Int))) then (if (mx 0 (mn a1 (a0.size : Int))) ≤ (a0.size : Int) then ((strings_Count.f (a0.extract 0 ((mx 0 (mn a1 (a0.size : Int))) : Int).toNat) (⟨#[10]⟩ : ByteArray)).bind fun t363 => ((strings_LastIndexByte.f (a0.extract 0 ((mx 0 (mn a1 (a0.size : Int))) : Int).toNat) 10).bind fun t364 => (some (wrap64 (t363 + 1), wrap64 (((a0.extract 0 ((mx 0 (mn a1 (a0.size : Int))) : Int).toNat).size : Int) - t364))))) else (none)) else (none)) = some (r1, r2) := h
  clear h
  obtain ⟨ji3, hji3⟩ : ∃ j_ : Int, (mn a1 (a0.size : Int)) = j_ := ⟨_, rfl⟩
  replace H : (if 0 ≤ (mx 0 (ji3)) then (if (mx 0 (ji3)) ≤ (a0.size : Int) then ((strings_Count.f (a0.extract 0 ((mx 0 (ji3)) : Int).toNat) (⟨#[10]⟩ : ByteArray)).bind fun t363 => ((strings_LastIndexByte.f (a0.extract 0 ((mx 0 (ji3)) : Int).toNat) 10).bind fun t364 => (some (wrap64 (t363 + 1), wrap64 (((a0.extract 0 ((mx 0 (ji3)) : Int).toNat).size : Int) - t364))))) else (none)) else (none)) = some (r1, r2) := by first | (rw [hji3] at H; exact H) | (simp only [hji3] at H ⊢; exact H)
  have hji3_ : (if (a0.size : Int) < a1 then (a0.size : Int) else a1) = ji3 := hji3
  obtain ⟨ji4, hji4⟩ : ∃ j_ : Int, (mx 0 (ji3)) = j_ := ⟨_, rfl⟩
  replace H : (if 0 ≤ (ji4) then (if (ji4) ≤ (a0.size : Int) then ((strings_Count.f (a0.extract 0 ((ji4) : Int).toNat) (⟨#[10]⟩ : ByteArray)).bind fun t363 => ((strings_LastIndexByte.f (a0.extract 0 ((ji4) : Int).toNat) 10).bind fun t364 => (some (wrap64 (t363 + 1), wrap64 (((a0.extract 0 ((ji4) : Int).toNat).size : Int) - t364))))) else (none)) else (none)) = some (r1, r2) := by first | (rw [hji4] at H; exact H) | (simp only [hji4] at H ⊢; exact H)
  have hji4_ : (if 0 < (ji3) then (ji3) else 0) = ji4 := hji4
  by_cases c5 : 0 ≤ (ji4)
  · rw [if_pos c5] at H
    have c5b0 := eq_true c5
    have c5b1 : decide (0 ≤ (ji4)) = true := decide_eq_true c5
    clear c5
    by_cases c6 : (ji4) ≤ (a0.size : Int)
    · rw [if_pos c6] at H
      have c6b0 := eq_true c6
      have c6b1 : decide ((ji4) ≤ (a0.size : Int)) = true := decide_eq_true c6
      clear c6
      replace H := Option.bind_eq_some_iff.mp H
      obtain ⟨t363, A70, H⟩ := H
      replace H : ((strings_LastIndexByte.f (a0.extract 0 ((ji4) : Int).toNat) 10).bind fun t364 => (some (wrap64 (t363 + 1), wrap64 (((a0.extract 0 ((ji4) : Int).toNat).size : Int) - t364)))) = some (r1, r2) := H
      have A7 := Aside0.mk A70
      clear A70
      replace H := Option.bind_eq_some_iff.mp H
      obtain ⟨t364, A80, H⟩ := H
      replace H : (some (wrap64 (t363 + 1), wrap64 (((a0.extract 0 ((ji4) : Int).toNat).size : Int) - t364))) = some (r1, r2) := H
      have A8 := Aside0.mk A80
      clear A80
      simp only [Option.some.injEq, Prod.mk.injEq] at H
      obtain ⟨rfl, rfl⟩ := H
      go_enter Tryd.func39, Tryd.ntmps39
      go_wp2_with (first | ((with_reducible refine gate_callee (f := 68) rfl ?_); refine goesL_ (some 15) rfl rfl Tryd.func68 (by kernel_rfl) rfl #[.string (a0.extract 0 ((ji4) : Int).toNat), .string (⟨#[10]⟩ : ByteArray)] rfl (by (try simp only [List.map_toArray, List.map_cons, List.map_nil]); first | done | (simp only [hji4]; rfl) | rfl | (simp only [List.length_drop, List.length_take]; rfl)) ?_; (with_reducible refine (strings_Count.calls (a0.extract 0 ((ji4) : Int).toNat) (⟨#[10]⟩ : ByteArray) t363 _ A7.out).mono ?_); rintro e w9 ⟨rfl, hb⟩; refine ⟨_, rfl, ?_⟩; have n0_ := Aside0.mk (below_step (bl_ HB.out) hb); clear HB; have HB := n0_; clear n0_; (try clear hb); (try clear hb2); (try clear hk); (try clear hi)) | ((with_reducible refine gate_callee (f := 69) rfl ?_); refine goesL_ (some 20) rfl rfl Tryd.func69 (by kernel_rfl) rfl #[.string (a0.extract 0 ((ji4) : Int).toNat), .int .u8 10] rfl (by (try simp only [List.map_toArray, List.map_cons, List.map_nil]); first | done | (simp only [hji4]; rfl) | rfl | (simp only [List.length_drop, List.length_take]; rfl)) ?_; (with_reducible refine (strings_LastIndexByte.calls (a0.extract 0 ((ji4) : Int).toNat) 10 t364 _ A8.out).mono ?_); rintro e w10 ⟨rfl, hb⟩; refine ⟨_, rfl, ?_⟩; have n0_ := Aside0.mk (below_step (bl_ HB.out) hb); clear HB; have HB := n0_; clear n0_; (try clear hb); (try clear hb2); (try clear hk); (try clear hi)))
      go_ret2
      exact ⟨by first | rfl | (simp [errW_none, errW_some] <;> rfl) | (simp only [← hji3, ← hji4]; first | rfl | (simp [errW_none, errW_some] <;> rfl)) | (simp [*, errW_none, errW_some] <;> rfl), bl_ HB.out⟩
    · rw [if_neg c6] at H
      exact absurd H (by simp)
  · rw [if_neg c5] at H
    exact absurd H (by simp)
end Go.Proofs.YtkifdadhojbohaaDoor.Pr
namespace Go.Proofs.YtkifdadhojbohaaDoor.Pr
open Go.Proofs.YtkifdadhojbohaaDoor
open Go.RowKit Go.Proofs.YtkifdadhojbohaaDoorW.PrintWords Go.Proofs.YtkifdadhojbohaaDoorW.PrintLast Go.Proofs.YtkifdadhojbohaaDoorW.PrintMore
attribute [local go_sem] max2_int min2_int max_two min_two max_three min_three max_four min_four   -- for this text's walks alone
set_option linter.unusedVariables false
set_option linter.unusedSimpArgs false
attribute [local go_sem high] eqA26 eqA46
/-! ### salchowlaw09_awake: function 32 -/
def salchowlaw09_awake.f (k : Nat)  : Option (Bool) := (lexer_Lex.f k (⟨#[101, 108, 101, 109, 101, 110, 116, 32, 51, 76, 122, 32, 118, 97, 108, 117, 101, 32, 50, 46, 53, 48, 59]⟩ : ByteArray)).bind fun bt365 => ((lexer_Lex.f k (⟨#[32, 49, 46, 50, 51, 52, 53]⟩ : ByteArray)).bind fun bt371 => ((lexer_Lex.f k (⟨#[49, 48, 48, 48, 48, 48, 49]⟩ : ByteArray)).bind fun bt377 => ((lexer_Spell.f k 2 (⟨#[]⟩ : ByteArray) 2500 0).bind fun bt383 => ((lexer_Place.f (⟨#[97, 10, 98]⟩ : ByteArray) 2).bind fun bt385 => (if (bt365.2.1 == 0 && (bt365.2.2 == 0)) = true then (if (bt365.1.length : Int) = 6 then (if 1 < (bt365.1.length : Int) then (if (((rd_T46 bt365.1 1).f0) == 1 && ((((rd_T46 bt365.1 1).f1).toList) == ([51, 76, 122] : List UInt8) && (((rd_T46 bt365.1 1).f2) == 0 && (((rd_T46 bt365.1 1).f3) == 8)))) = true then (if 3 < (bt365.1.length : Int) then (if (((rd_T46 bt365.1 3).f0) == 2 && ((((rd_T46 bt365.1 3).f1).toList) == ([] : List UInt8) && (((rd_T46 bt365.1 3).f2) == 2500 && (((rd_T46 bt365.1 3).f3) == 18)))) = true then (if 5 < (bt365.1.length : Int) then (if ((rd_T46 bt365.1 5).f0) = 5 then (if (bt371.2.1 == 2 && (bt371.2.2 == 1)) = true then (if bt377.2.1 = 5 then (if bt383.2 = 0 then (if bt383.1.toList = ([50, 46, 53] : List UInt8) then (if bt385.1 = 2 then (if bt385.2 = 1 then (if 4 < (bt365.1.length : Int) then ((lexer_Valid.f k ((rd_T46 bt365.1 4).f0) ((rd_T46 bt365.1 4).f1) ((rd_T46 bt365.1 4).f2) ((rd_T46 bt365.1 4).f3)).bind fun t391 => (some t391)) else (none)) else (none)) else (none)) else (none)) else (none)) else (none)) else (none)) else (none)) else (none)) else (none)) else (none)) else (none)) else (none)) else (none)) else (none))))))
theorem salchowlaw09_awake.mono : ∀ k, LeO (salchowlaw09_awake.f k ) (salchowlaw09_awake.f (k + 1) ) := by
  intro  k
  unfold salchowlaw09_awake.f
  repeat' first
      | (with_reducible exact lexer_Lex.mono _ _)
      | (with_reducible exact lexer_Spell.mono _ _ _ _ _)
      | (with_reducible exact lexer_Valid.mono _ _ _ _ _)
      | (with_reducible exact LeO.refl _)
      | (with_reducible exact LeO.none _)
      | (with_reducible refine LeO.ite ?_ ?_)
      | (with_reducible refine LeO.bind ?_ (fun _ => ?_))
      | exact lexer_Lex.mono _ _
      | exact lexer_Spell.mono _ _ _ _ _
      | exact lexer_Valid.mono _ _ _ _ _
      | exact LeO.none _
      | refine LeO.ite ?_ ?_
      | refine LeO.bind ?_ (fun _ => ?_)
set_option maxHeartbeats 8000000 in
set_option maxRecDepth 100000 in
theorem salchowlaw09_awake.calls (k : Nat)  (r : Bool) (w : World) (hG : Gl w) (h : salchowlaw09_awake.f k  = some r) :
    Calls Tryd.prog 32 #[] w fun e w' => e = .returned (.bool r) ∧ Below w.heap.size w w' := by
  have hu26 := Tryd.underlying26
  have hu46 := Tryd.underlying46
  have HB := Aside0.mk (Below.refl w.heap.size w)
  have H : ((lexer_Lex.f k (⟨#[101, 108, 101, 109, 101, 110, 116, 32, 51, 76, 122, 32, 118, 97, 108, 117, 101, 32, 50, 46, 53, 48, 59]⟩ : ByteArray)).bind fun bt365 => ((lexer_Lex.f k (⟨#[32, 49, 46, 50, 51, 52, 53]⟩ : ByteArray)).bind fun bt371 => ((lexer_Lex.f k (⟨#[49, 48, 48, 48, 48, 48, 49]⟩ : ByteArray)).bind fun bt377 => ((lexer_Spell.f k 2 (⟨#[]⟩ : ByteArray) 2500 0).bind fun bt383 => ((lexer_Place.f (⟨#[97, 10, 98]⟩ : ByteArray) 2).bind fun bt385 => (if (bt365.2.1 == 0 && (bt365.2.2 == 0)) = true then (if (bt365.1.length : Int) = 6 then (if 1 < (bt365.1.length : Int) then (if (((rd_T46 bt365.1 1).f0) == 1 && ((((rd_T46 bt365.1 1).f1).toList) == ([51, 76, 122] : List UInt8) && (((rd_T46 bt365.1 1).f2) == 0 && (((rd_T46 bt365.1 1).f3) == 8)))) = true then (if 3 < (bt365.1.length : Int) then (if (((rd_T46 bt365.1 3).f0) == 2 && ((((rd_T46 bt365.1 3).f1).toList) == ([] : List UInt8) && (((rd_T46 bt365.1 3).f2) == 2500 && (((rd_T46 bt365.1 3).f3) == 18)))) = true then (if 5 < (bt365.1.length : Int) then (if ((rd_T46 bt365.1 5).f0) = 5 then (if (bt371.2.1 == 2 && (bt371.2.2 == 1)) = true then (if bt377.2.1 = 5 then (if bt383.2 = 0 then (if bt383.1.toList = ([50, 46, 53] : List UInt8) then (if bt385.1 = 2 then (if bt385.2 = 1 then (if 4 < (bt365.1.length : Int) then ((lexer_Valid.f k ((rd_T46 bt365.1 4).f0) ((rd_T46 bt365.1 4).f1) ((rd_T46 bt365.1 4).f2) ((rd_T46 bt365.1 4).f3)).bind fun t391 => (some t391)) else (none)) else (none)) else (none)) else (none)) else (none)) else (none)) else (none)) else (none)) else (none)) else (none)) else (none)) else (none)) else (none)) else (none)) else (none))))))) = some r := h
  clear h
  replace H := Option.bind_eq_some_iff.mp H
  obtain ⟨⟨t365, t368, t369⟩, A10, H⟩ := H
  replace H : ((lexer_Lex.f k (⟨#[32, 49, 46, 50, 51, 52, 53]⟩ : ByteArray)).bind fun bt371 => ((lexer_Lex.f k (⟨#[49, 48, 48, 48, 48, 48, 49]⟩ : ByteArray)).bind fun bt377 => ((lexer_Spell.f k 2 (⟨#[]⟩ : ByteArray) 2500 0).bind fun bt383 => ((lexer_Place.f (⟨#[97, 10, 98]⟩ : ByteArray) 2).bind fun bt385 => (if (t368 == 0 && (t369 == 0)) = true then (if (t365.length : Int) = 6 then (if 1 < (t365.length : Int) then (if (((rd_T46 t365 1).f0) == 1 && ((((rd_T46 t365 1).f1).toList) == ([51, 76, 122] : List UInt8) && (((rd_T46 t365 1).f2) == 0 && (((rd_T46 t365 1).f3) == 8)))) = true then (if 3 < (t365.length : Int) then (if (((rd_T46 t365 3).f0) == 2 && ((((rd_T46 t365 3).f1).toList) == ([] : List UInt8) && (((rd_T46 t365 3).f2) == 2500 && (((rd_T46 t365 3).f3) == 18)))) = true then (if 5 < (t365.length : Int) then (if ((rd_T46 t365 5).f0) = 5 then (if (bt371.2.1 == 2 && (bt371.2.2 == 1)) = true then (if bt377.2.1 = 5 then (if bt383.2 = 0 then (if bt383.1.toList = ([50, 46, 53] : List UInt8) then (if bt385.1 = 2 then (if bt385.2 = 1 then (if 4 < (t365.length : Int) then ((lexer_Valid.f k ((rd_T46 t365 4).f0) ((rd_T46 t365 4).f1) ((rd_T46 t365 4).f2) ((rd_T46 t365 4).f3)).bind fun t391 => (some t391)) else (none)) else (none)) else (none)) else (none)) else (none)) else (none)) else (none)) else (none)) else (none)) else (none)) else (none)) else (none)) else (none)) else (none)) else (none)))))) = some r := H
  have A1 := Aside0.mk A10
  clear A10
  replace H := Option.bind_eq_some_iff.mp H
  obtain ⟨⟨t371, t374, t375⟩, A20, H⟩ := H
  replace H : ((lexer_Lex.f k (⟨#[49, 48, 48, 48, 48, 48, 49]⟩ : ByteArray)).bind fun bt377 => ((lexer_Spell.f k 2 (⟨#[]⟩ : ByteArray) 2500 0).bind fun bt383 => ((lexer_Place.f (⟨#[97, 10, 98]⟩ : ByteArray) 2).bind fun bt385 => (if (t368 == 0 && (t369 == 0)) = true then (if (t365.length : Int) = 6 then (if 1 < (t365.length : Int) then (if (((rd_T46 t365 1).f0) == 1 && ((((rd_T46 t365 1).f1).toList) == ([51, 76, 122] : List UInt8) && (((rd_T46 t365 1).f2) == 0 && (((rd_T46 t365 1).f3) == 8)))) = true then (if 3 < (t365.length : Int) then (if (((rd_T46 t365 3).f0) == 2 && ((((rd_T46 t365 3).f1).toList) == ([] : List UInt8) && (((rd_T46 t365 3).f2) == 2500 && (((rd_T46 t365 3).f3) == 18)))) = true then (if 5 < (t365.length : Int) then (if ((rd_T46 t365 5).f0) = 5 then (if (t374 == 2 && (t375 == 1)) = true then (if bt377.2.1 = 5 then (if bt383.2 = 0 then (if bt383.1.toList = ([50, 46, 53] : List UInt8) then (if bt385.1 = 2 then (if bt385.2 = 1 then (if 4 < (t365.length : Int) then ((lexer_Valid.f k ((rd_T46 t365 4).f0) ((rd_T46 t365 4).f1) ((rd_T46 t365 4).f2) ((rd_T46 t365 4).f3)).bind fun t391 => (some t391)) else (none)) else (none)) else (none)) else (none)) else (none)) else (none)) else (none)) else (none)) else (none)) else (none)) else (none)) else (none)) else (none)) else (none)) else (none))))) = some r := H
  have A2 := Aside0.mk A20
  clear A20
  replace H := Option.bind_eq_some_iff.mp H
  obtain ⟨⟨t377, t380, t381⟩, A30, H⟩ := H
  replace H : ((lexer_Spell.f k 2 (⟨#[]⟩ : ByteArray) 2500 0).bind fun bt383 => ((lexer_Place.f (⟨#[97, 10, 98]⟩ : ByteArray) 2).bind fun bt385 => (if (t368 == 0 && (t369 == 0)) = true then (if (t365.length : Int) = 6 then (if 1 < (t365.length : Int) then (if (((rd_T46 t365 1).f0) == 1 && ((((rd_T46 t365 1).f1).toList) == ([51, 76, 122] : List UInt8) && (((rd_T46 t365 1).f2) == 0 && (((rd_T46 t365 1).f3) == 8)))) = true then (if 3 < (t365.length : Int) then (if (((rd_T46 t365 3).f0) == 2 && ((((rd_T46 t365 3).f1).toList) == ([] : List UInt8) && (((rd_T46 t365 3).f2) == 2500 && (((rd_T46 t365 3).f3) == 18)))) = true then (if 5 < (t365.length : Int) then (if ((rd_T46 t365 5).f0) = 5 then (if (t374 == 2 && (t375 == 1)) = true then (if t380 = 5 then (if bt383.2 = 0 then (if bt383.1.toList = ([50, 46, 53] : List UInt8) then (if bt385.1 = 2 then (if bt385.2 = 1 then (if 4 < (t365.length : Int) then ((lexer_Valid.f k ((rd_T46 t365 4).f0) ((rd_T46 t365 4).f1) ((rd_T46 t365 4).f2) ((rd_T46 t365 4).f3)).bind fun t391 => (some t391)) else (none)) else (none)) else (none)) else (none)) else (none)) else (none)) else (none)) else (none)) else (none)) else (none)) else (none)) else (none)) else (none)) else (none)) else (none)))) = some r := H
  have A3 := Aside0.mk A30
  clear A30
  replace H := Option.bind_eq_some_iff.mp H
  obtain ⟨⟨t383, t384⟩, A40, H⟩ := H
  replace H : ((lexer_Place.f (⟨#[97, 10, 98]⟩ : ByteArray) 2).bind fun bt385 => (if (t368 == 0 && (t369 == 0)) = true then (if (t365.length : Int) = 6 then (if 1 < (t365.length : Int) then (if (((rd_T46 t365 1).f0) == 1 && ((((rd_T46 t365 1).f1).toList) == ([51, 76, 122] : List UInt8) && (((rd_T46 t365 1).f2) == 0 && (((rd_T46 t365 1).f3) == 8)))) = true then (if 3 < (t365.length : Int) then (if (((rd_T46 t365 3).f0) == 2 && ((((rd_T46 t365 3).f1).toList) == ([] : List UInt8) && (((rd_T46 t365 3).f2) == 2500 && (((rd_T46 t365 3).f3) == 18)))) = true then (if 5 < (t365.length : Int) then (if ((rd_T46 t365 5).f0) = 5 then (if (t374 == 2 && (t375 == 1)) = true then (if t380 = 5 then (if t384 = 0 then (if t383.toList = ([50, 46, 53] : List UInt8) then (if bt385.1 = 2 then (if bt385.2 = 1 then (if 4 < (t365.length : Int) then ((lexer_Valid.f k ((rd_T46 t365 4).f0) ((rd_T46 t365 4).f1) ((rd_T46 t365 4).f2) ((rd_T46 t365 4).f3)).bind fun t391 => (some t391)) else (none)) else (none)) else (none)) else (none)) else (none)) else (none)) else (none)) else (none)) else (none)) else (none)) else (none)) else (none)) else (none)) else (none)) else (none))) = some r := H
  have A4 := Aside0.mk A40
  clear A40
  replace H := Option.bind_eq_some_iff.mp H
  obtain ⟨⟨t385, t386⟩, A50, H⟩ := H
  replace H : (if (t368 == 0 && (t369 == 0)) = true then (if (t365.length : Int) = 6 then (if 1 < (t365.length : Int) then (if (((rd_T46 t365 1).f0) == 1 && ((((rd_T46 t365 1).f1).toList) == ([51, 76, 122] : List UInt8) && (((rd_T46 t365 1).f2) == 0 && (((rd_T46 t365 1).f3) == 8)))) = true then (if 3 < (t365.length : Int) then (if (((rd_T46 t365 3).f0) == 2 && ((((rd_T46 t365 3).f1).toList) == ([] : List UInt8) && (((rd_T46 t365 3).f2) == 2500 && (((rd_T46 t365 3).f3) == 18)))) = true then (if 5 < (t365.length : Int) then (if ((rd_T46 t365 5).f0) = 5 then (if (t374 == 2 && (t375 == 1)) = true then (if t380 = 5 then (if t384 = 0 then (if t383.toList = ([50, 46, 53] : List UInt8) then (if t385 = 2 then (if t386 = 1 then (if 4 < (t365.length : Int) then ((lexer_Valid.f k ((rd_T46 t365 4).f0) ((rd_T46 t365 4).f1) ((rd_T46 t365 4).f2) ((rd_T46 t365 4).f3)).bind fun t391 => (some t391)) else (none)) else (none)) else (none)) else (none)) else (none)) else (none)) else (none)) else (none)) else (none)) else (none)) else (none)) else (none)) else (none)) else (none)) else (none)) = some r := H
  have A5 := Aside0.mk A50
  clear A50
  by_cases c6 : (t368 == 0 && (t369 == 0)) = true
  · rw [if_pos c6] at H
    have c6b0 : (t368 == 0 && (t369 == 0)) = true := c6
    (try (have c6b1 : decide (t368 = 0 && (t369 == 0)) = true := by simpa using c6))
    (try (have c6b2 : (t368 == 0 && (t369 == 0)) = true := by simpa using c6))
    clear c6
    by_cases c7 : (t365.length : Int) = 6
    · rw [if_pos c7] at H
      have c7b0 : ((t365.length : Int) == 6) = true := beq_iff_eq.mpr c7
      have c7b1 : ((t365.length : Int) != 6) = false := bne_eq_false_iff_eq.mpr c7
      clear c7
      by_cases c8 : 1 < (t365.length : Int)
      · rw [if_pos c8] at H
        have c8b0 : decide (1 < (t365.length : Int)) = true := decide_eq_true c8
        have c8b1 : decide (1 < t365.length) = true := decide_eq_true (by omega)
        clear c8
        by_cases c9 : (((rd_T46 t365 1).f0) == 1 && ((((rd_T46 t365 1).f1).toList) == ([51, 76, 122] : List UInt8) && (((rd_T46 t365 1).f2) == 0 && (((rd_T46 t365 1).f3) == 8)))) = true
        · rw [if_pos c9] at H
          have c9b0 : (((rd_T46 t365 1).f0) == 1 && ((((rd_T46 t365 1).f1).toList) == ([51, 76, 122] : List UInt8) && (((rd_T46 t365 1).f2) == 0 && (((rd_T46 t365 1).f3) == 8)))) = true := c9
          (try (have c9b1 : decide (((rd_T46 t365 1).f0) = 1 && ((((rd_T46 t365 1).f1).toList) == ([51, 76, 122] : List UInt8) && (((rd_T46 t365 1).f2) == 0 && (((rd_T46 t365 1).f3) == 8)))) = true := by simpa using c9))
          (try (have c9b2 : (((rd_T46 t365 1).f0) == 1 && ((((rd_T46 t365 1).f1).toList) == ([51, 76, 122] : List UInt8) && (((rd_T46 t365 1).f2) == 0 && (((rd_T46 t365 1).f3) == 8)))) = true := by simpa using c9))
          clear c9
          by_cases c10 : 3 < (t365.length : Int)
          · rw [if_pos c10] at H
            have c10b0 : decide (3 < (t365.length : Int)) = true := decide_eq_true c10
            have c10b1 : decide (3 < t365.length) = true := decide_eq_true (by omega)
            clear c10
            by_cases c11 : (((rd_T46 t365 3).f0) == 2 && ((((rd_T46 t365 3).f1).toList) == ([] : List UInt8) && (((rd_T46 t365 3).f2) == 2500 && (((rd_T46 t365 3).f3) == 18)))) = true
            · rw [if_pos c11] at H
              have c11b0 : (((rd_T46 t365 3).f0) == 2 && ((((rd_T46 t365 3).f1).toList) == ([] : List UInt8) && (((rd_T46 t365 3).f2) == 2500 && (((rd_T46 t365 3).f3) == 18)))) = true := c11
              (try (have c11b1 : ((((rd_T46 t365 3).f0) = 2 ∧ ((((rd_T46 t365 3).f1).toList) = ([] : List UInt8) ∧ (((rd_T46 t365 3).f2) = 2500 ∧ (((rd_T46 t365 3).f3) = 18))))) = True := eq_true (by simpa using c11)))
              (try (have c11b2 : decide (((rd_T46 t365 3).f0) = 2 && ((((rd_T46 t365 3).f1).toList) == ([] : List UInt8) && (((rd_T46 t365 3).f2) == 2500 && (((rd_T46 t365 3).f3) == 18)))) = true := by simpa using c11))
              (try (have c11b3 : (((rd_T46 t365 3).f0) == 2 && ((((rd_T46 t365 3).f1).toList) == ([] : List UInt8) && (((rd_T46 t365 3).f2) == 2500 && (((rd_T46 t365 3).f3) == 18)))) = true := by simpa using c11))
              clear c11
              by_cases c12 : 5 < (t365.length : Int)
              · rw [if_pos c12] at H
                have c12b0 : decide (5 < (t365.length : Int)) = true := decide_eq_true c12
                have c12b1 : decide (5 < t365.length) = true := decide_eq_true (by omega)
                clear c12
                by_cases c13 : ((rd_T46 t365 5).f0) = 5
                · rw [if_pos c13] at H
                  have c13b0 : (((rd_T46 t365 5).f0) == 5) = true := beq_iff_eq.mpr c13
                  have c13b1 : (((rd_T46 t365 5).f0) != 5) = false := bne_eq_false_iff_eq.mpr c13
                  clear c13
                  by_cases c14 : (t374 == 2 && (t375 == 1)) = true
                  · rw [if_pos c14] at H
                    have c14b0 : (t374 == 2 && (t375 == 1)) = true := c14
                    (try (have c14b1 : decide (t374 = 2 && (t375 == 1)) = true := by simpa using c14))
                    (try (have c14b2 : (t374 == 2 && (t375 == 1)) = true := by simpa using c14))
                    clear c14
                    by_cases c15 : t380 = 5
                    · rw [if_pos c15] at H
                      have c15b0 : (t380 == 5) = true := beq_iff_eq.mpr c15
                      have c15b1 : (t380 != 5) = false := bne_eq_false_iff_eq.mpr c15
                      clear c15
                      by_cases c16 : t384 = 0
                      · rw [if_pos c16] at H
                        have c16b0 : (t384 == 0) = true := beq_iff_eq.mpr c16
                        have c16b1 : (t384 != 0) = false := bne_eq_false_iff_eq.mpr c16
                        clear c16
                        by_cases c17 : t383.toList = ([50, 46, 53] : List UInt8)
                        · rw [if_pos c17] at H
                          have c17b0 : (t383.toList == ([50, 46, 53] : List UInt8)) = true := beq_iff_eq.mpr c17
                          have c17b1 : (t383.toList != ([50, 46, 53] : List UInt8)) = false := bne_eq_false_iff_eq.mpr c17
                          clear c17
                          by_cases c18 : t385 = 2
                          · rw [if_pos c18] at H
                            have c18b0 : (t385 == 2) = true := beq_iff_eq.mpr c18
                            have c18b1 : (t385 != 2) = false := bne_eq_false_iff_eq.mpr c18
                            clear c18
                            by_cases c19 : t386 = 1
                            · rw [if_pos c19] at H
                              have c19b0 : (t386 == 1) = true := beq_iff_eq.mpr c19
                              have c19b1 : (t386 != 1) = false := bne_eq_false_iff_eq.mpr c19
                              clear c19
                              by_cases c20 : 4 < (t365.length : Int)
                              · rw [if_pos c20] at H
                                have c20b0 : decide (4 < (t365.length : Int)) = true := decide_eq_true c20
                                have c20b1 : decide (4 < t365.length) = true := decide_eq_true (by omega)
                                clear c20
                                replace H := Option.bind_eq_some_iff.mp H
                                obtain ⟨t391, A210, H⟩ := H
                                replace H : (some t391) = some r := H
                                have A21 := Aside0.mk A210
                                clear A210
                                obtain rfl := Option.some.inj H
                                go_enter Tryd.func32, Tryd.ntmps32
                                go_wp2_with (first | ((with_reducible refine gate_callee (f := 25) rfl ?_); refine goesL_ (some 12) rfl rfl Tryd.func25 (by kernel_rfl) rfl #[.string (⟨#[101, 108, 101, 109, 101, 110, 116, 32, 51, 76, 122, 32, 118, 97, 108, 117, 101, 32, 50, 46, 53, 48, 59]⟩ : ByteArray)] rfl (by (try simp only [List.map_toArray, List.map_cons, List.map_nil]); first | done | rfl | (simp only [List.length_drop, List.length_take]; rfl)) ?_; (with_reducible refine (lexer_Lex.calls k (⟨#[101, 108, 101, 109, 101, 110, 116, 32, 51, 76, 122, 32, 118, 97, 108, 117, 101, 32, 50, 46, 53, 48, 59]⟩ : ByteArray) t365 t368 t369 _ A1.out).mono ?_); rintro e w22 ⟨v366, rfl, ho0, hb⟩; refine ⟨_, rfl, ?_⟩; have n0_ := Aside0.mk (Kd.R_lower ho0 (below_size (bl_ HB.out))); have n1_ := Aside0.mk (below_step (bl_ HB.out) hb); clear HB; have HO367 := n0_; have HB := n1_; clear n0_ n1_; (try clear hb); (try clear hb2); (try clear hk); (try clear hi); (try clear ho0)) | ((with_reducible refine gate_dst (N := 2) rfl ?_); (try (refine gate_guard (by rfl) ?_; dsimp only)); refine box_event ?hg (N := 2) ?hd (cs := #[.int .i64 0, .int .i64 0]) (t := 26) ?hr ?_; (case hd => rfl); (case hg => rfl); (case hr => first | (go_simp; done) | (go_simp; rfl)); intro gb370 hg w23 hbox hb; have n0_ := Aside0.mk (Kd.R_below (by (with_reducible repeat (first | apply Kd.R_alloc | apply Kd.R_drewN | apply Kd.R_drew)); exact HO367.out) hb); have n1_ := Aside0.mk (below_step (bl_ HB.out) hb); have n2_ := Aside0.mk (hbox); have n3_ := Aside0.mk ((by rw [hg]; exact (below_size (bl_ HB.out)) : w.heap.size ≤ gb370)); have n4_ := Aside0.mk ((by rw [hg]; exact (below_size (bl_ HB.out)) : w.heap.size ≤ gb370)); clear HO367; clear HB; have HO367 := n0_; have HB := n1_; have BK370 := n2_; have GW370 := n3_; have GE370 := n4_; clear n0_ n1_ n2_ n3_ n4_; clear hb hbox hg; have hcz24_0 : w23.cell? ⟨gb370, 0, none⟩ = some (.int .i64 0) := (blk_cell BK370.out 0).trans rfl; have hcz24_1 : w23.cell? ⟨gb370, 1, none⟩ = some (.int .i64 0) := (blk_cell BK370.out 1).trans rfl; have hfz24_0 := blk_frozen BK370.out 0; have hfz24_1 := blk_frozen BK370.out 1) | ((with_reducible refine gate_callee (f := 25) rfl ?_); refine goesL_ (some 16) rfl rfl Tryd.func25 (by kernel_rfl) rfl #[.string (⟨#[32, 49, 46, 50, 51, 52, 53]⟩ : ByteArray)] rfl (by (try simp only [List.map_toArray, List.map_cons, List.map_nil]); first | done | rfl | (simp only [List.length_drop, List.length_take]; rfl)) ?_; (with_reducible refine (lexer_Lex.calls k (⟨#[32, 49, 46, 50, 51, 52, 53]⟩ : ByteArray) t371 t374 t375 _ A2.out).mono ?_); rintro e w25 ⟨v372, rfl, ho0, hb⟩; refine ⟨_, rfl, ?_⟩; have n0_ := Aside0.mk (Kd.R_elder' (by (with_reducible repeat (first | apply Kd.R_alloc | apply Kd.R_drewN | apply Kd.R_drew)); exact (Kd.R_mono (Kd.R_far (p := ⟨gb370, 1, none⟩) (Kd.R_far (p := ⟨gb370, 0, none⟩) (Kd.R_types HO367.out BK370.out (by decide)) (fun _ hk => hk.2) (.int .i64 t368)) (fun _ hk => hk.2) (.int .i64 t369)) (fun _ h_ => h_.1))) (Kd.R_base ho0) hb); have n1_ := Aside0.mk (Kd.R_lower (Kd.R_new' ho0 (Kd.R_lt (by (with_reducible repeat (first | apply Kd.R_alloc | apply Kd.R_drewN | apply Kd.R_drew)); exact (Kd.R_mono (Kd.R_far (p := ⟨gb370, 1, none⟩) (Kd.R_far (p := ⟨gb370, 0, none⟩) (Kd.R_types HO367.out BK370.out (by decide)) (fun _ hk => hk.2) (.int .i64 t368)) (fun _ hk => hk.2) (.int .i64 t369)) (fun _ h_ => h_.1))))) (below_size (bl1_ HB.out GE370.out))); have n2_ := Aside0.mk (blk_below (g := gb370) (o := .cells #[.int .i64 t368, .int .i64 t369] 26 (0, 0)) (by (with_reducible repeat (first | refine blk_drewN ?_ _ | refine blk_drew ?_ | refine blk_alloc ?_ _)); refine blk_put (cs := #[.int .i64 t368, .int .i64 0]) ?_ 1 _ rfl; (with_reducible repeat (first | refine blk_drewN ?_ _ | refine blk_drew ?_ | refine blk_alloc ?_ _)); refine blk_put (cs := #[.int .i64 0, .int .i64 0]) ?_ 0 _ rfl; (with_reducible repeat (first | refine blk_drewN ?_ _ | refine blk_drew ?_ | refine blk_alloc ?_ _)); exact BK370.out) hb); have n3_ := Aside0.mk (below_step (bl1_ HB.out GE370.out) hb); clear HO367; clear BK370; clear HB; have HO367 := n0_; have HO373 := n1_; have BK370 := n2_; have HB := n3_; clear n0_ n1_ n2_ n3_; (try clear hb); (try clear hb2); (try clear hk); (try clear hi); (try clear ho0)) | ((with_reducible refine gate_dst (N := 4) rfl ?_); (try (refine gate_guard (by rfl) ?_; dsimp only)); refine box_event ?hg (N := 4) ?hd (cs := #[.int .i64 0, .int .i64 0]) (t := 26) ?hr ?_; (case hd => rfl); (case hg => rfl); (case hr => first | (go_simp; done) | (go_simp; rfl)); intro gb376 hg w26 hbox hb; have n0_ := Aside0.mk (Kd.R_below (by (with_reducible repeat (first | apply Kd.R_alloc | apply Kd.R_drewN | apply Kd.R_drew)); exact HO367.out) hb); have n1_ := Aside0.mk (Kd.R_below (by (with_reducible repeat (first | apply Kd.R_alloc | apply Kd.R_drewN | apply Kd.R_drew)); exact HO373.out) hb); have n2_ := Aside0.mk (blk_below (g := gb370) (o := .cells #[.int .i64 t368, .int .i64 t369] 26 (0, 0)) (bk_ BK370.out) hb); have n3_ := Aside0.mk (below_step (bl1_ HB.out GE370.out) hb); have n4_ := Aside0.mk (hbox); have n5_ := Aside0.mk ((by rw [hg]; exact (below_size (bl1_ HB.out GE370.out)) : w.heap.size ≤ gb376)); have n6_ := Aside0.mk ((by rw [hg]; exact (below_size (bl1_ HB.out GE370.out)) : w.heap.size ≤ gb376)); have n7_ := Aside0.mk ((by rw [hg]; exact Nat.ne_of_lt (blk_lt (g := gb370) (o := .cells #[.int .i64 t368, .int .i64 t369] 26 (0, 0)) (bk_ BK370.out)) : gb370 ≠ gb376)); have n8_ := Aside0.mk ((by rw [hg]; exact Nat.ne_of_gt (blk_lt (g := gb370) (o := .cells #[.int .i64 t368, .int .i64 t369] 26 (0, 0)) (bk_ BK370.out)) : gb376 ≠ gb370)); clear HO367; clear HO373; clear BK370; clear HB; have HO367 := n0_; have HO373 := n1_; have BK370 := n2_; have HB := n3_; have BK376 := n4_; have GW376 := n5_; have GE376 := n6_; have NB370_376 := n7_; have NB376_370 := n8_; clear n0_ n1_ n2_ n3_ n4_ n5_ n6_ n7_ n8_; clear hb hbox hg; have hnb27 := NB376_370.out; have hnc27 := NB370_376.out; have hcz28_0 : w26.cell? ⟨gb376, 0, none⟩ = some (.int .i64 0) := (blk_cell BK376.out 0).trans rfl; have hcz28_1 : w26.cell? ⟨gb376, 1, none⟩ = some (.int .i64 0) := (blk_cell BK376.out 1).trans rfl; have hfz28_0 := blk_frozen BK376.out 0; have hfz28_1 := blk_frozen BK376.out 1) | ((with_reducible refine gate_callee (f := 25) rfl ?_); refine goesL_ (some 20) rfl rfl Tryd.func25 (by kernel_rfl) rfl #[.string (⟨#[49, 48, 48, 48, 48, 48, 49]⟩ : ByteArray)] rfl (by (try simp only [List.map_toArray, List.map_cons, List.map_nil]); first | done | rfl | (simp only [List.length_drop, List.length_take]; rfl)) ?_; (with_reducible refine (lexer_Lex.calls k (⟨#[49, 48, 48, 48, 48, 48, 49]⟩ : ByteArray) t377 t380 t381 _ A3.out).mono ?_); rintro e w29 ⟨v378, rfl, ho0, hb⟩; refine ⟨_, rfl, ?_⟩; have n0_ := Aside0.mk (Kd.R_elder' (by (with_reducible repeat (first | apply Kd.R_alloc | apply Kd.R_drewN | apply Kd.R_drew)); exact (Kd.R_mono (Kd.R_far (p := ⟨gb376, 1, none⟩) (Kd.R_far (p := ⟨gb376, 0, none⟩) (Kd.R_types HO367.out BK376.out (by decide)) (fun _ hk => hk.2) (.int .i64 t374)) (fun _ hk => hk.2) (.int .i64 t375)) (fun _ h_ => h_.1))) (Kd.R_base ho0) hb); have n1_ := Aside0.mk (Kd.R_elder' (by (with_reducible repeat (first | apply Kd.R_alloc | apply Kd.R_drewN | apply Kd.R_drew)); exact (Kd.R_mono (Kd.R_far (p := ⟨gb376, 1, none⟩) (Kd.R_far (p := ⟨gb376, 0, none⟩) (Kd.R_types HO373.out BK376.out (by decide)) (fun _ hk => hk.2) (.int .i64 t374)) (fun _ hk => hk.2) (.int .i64 t375)) (fun _ h_ => h_.1))) (Kd.R_base ho0) hb); have n2_ := Aside0.mk (Kd.R_lower (Kd.R_new' (Kd.R_new' ho0 (Kd.R_lt (by (with_reducible repeat (first | apply Kd.R_alloc | apply Kd.R_drewN | apply Kd.R_drew)); exact (Kd.R_mono (Kd.R_far (p := ⟨gb376, 1, none⟩) (Kd.R_far (p := ⟨gb376, 0, none⟩) (Kd.R_types HO367.out BK376.out (by decide)) (fun _ hk => hk.2) (.int .i64 t374)) (fun _ hk => hk.2) (.int .i64 t375)) (fun _ h_ => h_.1))))) (Kd.R_lt (by (with_reducible repeat (first | apply Kd.R_alloc | apply Kd.R_drewN | apply Kd.R_drew)); exact (Kd.R_mono (Kd.R_far (p := ⟨gb376, 1, none⟩) (Kd.R_far (p := ⟨gb376, 0, none⟩) (Kd.R_types HO373.out BK376.out (by decide)) (fun _ hk => hk.2) (.int .i64 t374)) (fun _ hk => hk.2) (.int .i64 t375)) (fun _ h_ => h_.1))))) (below_size (bl2_ HB.out GE370.out GE376.out))); have n3_ := Aside0.mk (blk_below (g := gb370) (o := .cells #[.int .i64 t368, .int .i64 t369] 26 (0, 0)) (by (with_reducible repeat (first | refine blk_drewN ?_ _ | refine blk_drew ?_ | refine blk_alloc ?_ _)); refine blk_far ?_ NB370_376.out _; (with_reducible repeat (first | refine blk_drewN ?_ _ | refine blk_drew ?_ | refine blk_alloc ?_ _)); refine blk_far ?_ NB370_376.out _; (with_reducible repeat (first | refine blk_drewN ?_ _ | refine blk_drew ?_ | refine blk_alloc ?_ _)); exact BK370.out) hb); have n4_ := Aside0.mk (blk_below (g := gb376) (o := .cells #[.int .i64 t374, .int .i64 t375] 26 (0, 0)) (by (with_reducible repeat (first | refine blk_drewN ?_ _ | refine blk_drew ?_ | refine blk_alloc ?_ _)); refine blk_put (cs := #[.int .i64 t374, .int .i64 0]) ?_ 1 _ rfl; (with_reducible repeat (first | refine blk_drewN ?_ _ | refine blk_drew ?_ | refine blk_alloc ?_ _)); refine blk_put (cs := #[.int .i64 0, .int .i64 0]) ?_ 0 _ rfl; (with_reducible repeat (first | refine blk_drewN ?_ _ | refine blk_drew ?_ | refine blk_alloc ?_ _)); exact BK376.out) hb); have n5_ := Aside0.mk (below_step (bl2_ HB.out GE370.out GE376.out) hb); clear HO367; clear HO373; clear BK370; clear BK376; clear HB; have HO367 := n0_; have HO373 := n1_; have HO379 := n2_; have BK370 := n3_; have BK376 := n4_; have HB := n5_; clear n0_ n1_ n2_ n3_ n4_ n5_; (try clear hb); (try clear hb2); (try clear hk); (try clear hi); (try clear ho0)) | ((with_reducible refine gate_dst (N := 6) rfl ?_); (try (refine gate_guard (by rfl) ?_; dsimp only)); refine box_event ?hg (N := 6) ?hd (cs := #[.int .i64 0, .int .i64 0]) (t := 26) ?hr ?_; (case hd => rfl); (case hg => rfl); (case hr => first | (go_simp; done) | (go_simp; rfl)); intro gb382 hg w30 hbox hb; have n0_ := Aside0.mk (Kd.R_below (by (with_reducible repeat (first | apply Kd.R_alloc | apply Kd.R_drewN | apply Kd.R_drew)); exact HO367.out) hb); have n1_ := Aside0.mk (Kd.R_below (by (with_reducible repeat (first | apply Kd.R_alloc | apply Kd.R_drewN | apply Kd.R_drew)); exact HO373.out) hb); have n2_ := Aside0.mk (Kd.R_below (by (with_reducible repeat (first | apply Kd.R_alloc | apply Kd.R_drewN | apply Kd.R_drew)); exact HO379.out) hb); have n3_ := Aside0.mk (blk_below (g := gb370) (o := .cells #[.int .i64 t368, .int .i64 t369] 26 (0, 0)) (bk_ BK370.out) hb); have n4_ := Aside0.mk (blk_below (g := gb376) (o := .cells #[.int .i64 t374, .int .i64 t375] 26 (0, 0)) (bk_ BK376.out) hb); have n5_ := Aside0.mk (below_step (bl2_ HB.out GE370.out GE376.out) hb); have n6_ := Aside0.mk (hbox); have n7_ := Aside0.mk ((by rw [hg]; exact (below_size (bl2_ HB.out GE370.out GE376.out)) : w.heap.size ≤ gb382)); have n8_ := Aside0.mk ((by rw [hg]; exact (below_size (bl2_ HB.out GE370.out GE376.out)) : w.heap.size ≤ gb382)); have n9_ := Aside0.mk ((by rw [hg]; exact Nat.ne_of_lt (blk_lt (g := gb370) (o := .cells #[.int .i64 t368, .int .i64 t369] 26 (0, 0)) (bk_ BK370.out)) : gb370 ≠ gb382)); have n10_ := Aside0.mk ((by rw [hg]; exact Nat.ne_of_gt (blk_lt (g := gb370) (o := .cells #[.int .i64 t368, .int .i64 t369] 26 (0, 0)) (bk_ BK370.out)) : gb382 ≠ gb370)); have n11_ := Aside0.mk ((by rw [hg]; exact Nat.ne_of_lt (blk_lt (g := gb376) (o := .cells #[.int .i64 t374, .int .i64 t375] 26 (0, 0)) (bk_ BK376.out)) : gb376 ≠ gb382)); have n12_ := Aside0.mk ((by rw [hg]; exact Nat.ne_of_gt (blk_lt (g := gb376) (o := .cells #[.int .i64 t374, .int .i64 t375] 26 (0, 0)) (bk_ BK376.out)) : gb382 ≠ gb376)); clear HO367; clear HO373; clear HO379; clear BK370; clear BK376; clear HB; have HO367 := n0_; have HO373 := n1_; have HO379 := n2_; have BK370 := n3_; have BK376 := n4_; have HB := n5_; have BK382 := n6_; have GW382 := n7_; have GE382 := n8_; have NB370_382 := n9_; have NB382_370 := n10_; have NB376_382 := n11_; have NB382_376 := n12_; clear n0_ n1_ n2_ n3_ n4_ n5_ n6_ n7_ n8_ n9_ n10_ n11_ n12_; clear hb hbox hg; have hnb31 := NB382_370.out; have hnc31 := NB370_382.out; have hnb32 := NB382_376.out; have hnc32 := NB376_382.out; have hcz33_0 : w30.cell? ⟨gb382, 0, none⟩ = some (.int .i64 0) := (blk_cell BK382.out 0).trans rfl; have hcz33_1 : w30.cell? ⟨gb382, 1, none⟩ = some (.int .i64 0) := (blk_cell BK382.out 1).trans rfl; have hfz33_0 := blk_frozen BK382.out 0; have hfz33_1 := blk_frozen BK382.out 1) | ((with_reducible refine gate_callee (f := 35) rfl ?_); refine goesL_ (some 25) rfl rfl Tryd.func35 (by kernel_rfl) rfl #[.agg #[.int .i64 2, .string (⟨#[]⟩ : ByteArray), .int .i64 2500, .int .i64 0]] rfl (by (try simp only [List.map_toArray, List.map_cons, List.map_nil]); first | done | rfl | (simp only [List.length_drop, List.length_take]; rfl)) ?_; (with_reducible refine (lexer_Spell.calls k 2 (⟨#[]⟩ : ByteArray) 2500 0 t383 t384 _ ?side1 A4.out).mono ?_); (case side1 => exact Gl.below hG (bl3_ HB.out GE370.out GE376.out GE382.out)); rintro e w34 ⟨rfl, hb⟩; refine ⟨_, rfl, ?_⟩; have n0_ := Aside0.mk (Kd.R_below (by (with_reducible repeat (first | apply Kd.R_alloc | apply Kd.R_drewN | apply Kd.R_drew)); exact (Kd.R_mono (Kd.R_far (p := ⟨gb382, 1, none⟩) (Kd.R_far (p := ⟨gb382, 0, none⟩) (Kd.R_types HO367.out BK382.out (by decide)) (fun _ hk => hk.2) (.int .i64 t380)) (fun _ hk => hk.2) (.int .i64 t381)) (fun _ h_ => h_.1))) hb); have n1_ := Aside0.mk (Kd.R_below (by (with_reducible repeat (first | apply Kd.R_alloc | apply Kd.R_drewN | apply Kd.R_drew)); exact (Kd.R_mono (Kd.R_far (p := ⟨gb382, 1, none⟩) (Kd.R_far (p := ⟨gb382, 0, none⟩) (Kd.R_types HO373.out BK382.out (by decide)) (fun _ hk => hk.2) (.int .i64 t380)) (fun _ hk => hk.2) (.int .i64 t381)) (fun _ h_ => h_.1))) hb); have n2_ := Aside0.mk (Kd.R_below (by (with_reducible repeat (first | apply Kd.R_alloc | apply Kd.R_drewN | apply Kd.R_drew)); exact (Kd.R_mono (Kd.R_far (p := ⟨gb382, 1, none⟩) (Kd.R_far (p := ⟨gb382, 0, none⟩) (Kd.R_types HO379.out BK382.out (by decide)) (fun _ hk => hk.2) (.int .i64 t380)) (fun _ hk => hk.2) (.int .i64 t381)) (fun _ h_ => h_.1))) hb); have n3_ := Aside0.mk (blk_below (g := gb370) (o := .cells #[.int .i64 t368, .int .i64 t369] 26 (0, 0)) (by (with_reducible repeat (first | refine blk_drewN ?_ _ | refine blk_drew ?_ | refine blk_alloc ?_ _)); refine blk_far ?_ NB370_382.out _; (with_reducible repeat (first | refine blk_drewN ?_ _ | refine blk_drew ?_ | refine blk_alloc ?_ _)); refine blk_far ?_ NB370_382.out _; (with_reducible repeat (first | refine blk_drewN ?_ _ | refine blk_drew ?_ | refine blk_alloc ?_ _)); exact BK370.out) hb); have n4_ := Aside0.mk (blk_below (g := gb376) (o := .cells #[.int .i64 t374, .int .i64 t375] 26 (0, 0)) (by (with_reducible repeat (first | refine blk_drewN ?_ _ | refine blk_drew ?_ | refine blk_alloc ?_ _)); refine blk_far ?_ NB376_382.out _; (with_reducible repeat (first | refine blk_drewN ?_ _ | refine blk_drew ?_ | refine blk_alloc ?_ _)); refine blk_far ?_ NB376_382.out _; (with_reducible repeat (first | refine blk_drewN ?_ _ | refine blk_drew ?_ | refine blk_alloc ?_ _)); exact BK376.out) hb); have n5_ := Aside0.mk (blk_below (g := gb382) (o := .cells #[.int .i64 t380, .int .i64 t381] 26 (0, 0)) (by (with_reducible repeat (first | refine blk_drewN ?_ _ | refine blk_drew ?_ | refine blk_alloc ?_ _)); refine blk_put (cs := #[.int .i64 t380, .int .i64 0]) ?_ 1 _ rfl; (with_reducible repeat (first | refine blk_drewN ?_ _ | refine blk_drew ?_ | refine blk_alloc ?_ _)); refine blk_put (cs := #[.int .i64 0, .int .i64 0]) ?_ 0 _ rfl; (with_reducible repeat (first | refine blk_drewN ?_ _ | refine blk_drew ?_ | refine blk_alloc ?_ _)); exact BK382.out) hb); have n6_ := Aside0.mk (below_step (bl3_ HB.out GE370.out GE376.out GE382.out) hb); clear HO367; clear HO373; clear HO379; clear BK370; clear BK376; clear BK382; clear HB; have HO367 := n0_; have HO373 := n1_; have HO379 := n2_; have BK370 := n3_; have BK376 := n4_; have BK382 := n5_; have HB := n6_; clear n0_ n1_ n2_ n3_ n4_ n5_ n6_; (try clear hb); (try clear hb2); (try clear hk); (try clear hi)) | ((with_reducible refine gate_callee (f := 39) rfl ?_); refine goesL_ (some 29) rfl rfl Tryd.func39 (by kernel_rfl) rfl #[.string (⟨#[97, 10, 98]⟩ : ByteArray), .int .i64 2] rfl (by (try simp only [List.map_toArray, List.map_cons, List.map_nil]); first | done | rfl | (simp only [List.length_drop, List.length_take]; rfl)) ?_; (with_reducible refine (lexer_Place.calls (⟨#[97, 10, 98]⟩ : ByteArray) 2 t385 t386 _ A5.out).mono ?_); rintro e w35 ⟨rfl, hb⟩; refine ⟨_, rfl, ?_⟩; have n0_ := Aside0.mk (Kd.R_below (by (with_reducible repeat (first | apply Kd.R_alloc | apply Kd.R_drewN | apply Kd.R_drew)); exact HO367.out) hb); have n1_ := Aside0.mk (Kd.R_below (by (with_reducible repeat (first | apply Kd.R_alloc | apply Kd.R_drewN | apply Kd.R_drew)); exact HO373.out) hb); have n2_ := Aside0.mk (Kd.R_below (by (with_reducible repeat (first | apply Kd.R_alloc | apply Kd.R_drewN | apply Kd.R_drew)); exact HO379.out) hb); have n3_ := Aside0.mk (blk_below (g := gb370) (o := .cells #[.int .i64 t368, .int .i64 t369] 26 (0, 0)) (bk_ BK370.out) hb); have n4_ := Aside0.mk (blk_below (g := gb376) (o := .cells #[.int .i64 t374, .int .i64 t375] 26 (0, 0)) (bk_ BK376.out) hb); have n5_ := Aside0.mk (blk_below (g := gb382) (o := .cells #[.int .i64 t380, .int .i64 t381] 26 (0, 0)) (bk_ BK382.out) hb); have n6_ := Aside0.mk (below_step (bl3_ HB.out GE370.out GE376.out GE382.out) hb); clear HO367; clear HO373; clear HO379; clear BK370; clear BK376; clear BK382; clear HB; have HO367 := n0_; have HO373 := n1_; have HO379 := n2_; have BK370 := n3_; have BK376 := n4_; have BK382 := n5_; have HB := n6_; clear n0_ n1_ n2_ n3_ n4_ n5_ n6_; (try clear hb); (try clear hb2); (try clear hk); (try clear hi); have hcz36_0 : w35.cell? ⟨gb370, 0, none⟩ = some (.int .i64 t368) := (blk_cell BK370.out 0).trans rfl; have hcz36_1 : w35.cell? ⟨gb370, 1, none⟩ = some (.int .i64 t369) := (blk_cell BK370.out 1).trans rfl; have hfz36_0 := blk_frozen BK370.out 0; have hfz36_1 := blk_frozen BK370.out 1; obtain ⟨Ao37, co37, eo37⟩ := Kd.R_slice HO367.out; subst eo37; have p387 : 0 ≤ (1 : Int) := (by omega); have q387 : 1 < (t365.length : Int) := of_decide_eq_true (by first | (with_reducible assumption) | assumption); obtain ⟨ad387, e387, hx387_0, hx387_1, hx387_2, hx387_3⟩ := at_T46 (Kd.R_reads' HO367.out).2.2 1 p387 q387; cases e387; (try simp only [show (1 : Int).toNat = 1 from rfl, Nat.reduceMul, Nat.reduceEqDiff, Go.Addr.add, ↓reduceIte] at hx387_0); (try simp only [show (1 : Int).toNat = 1 from rfl, Nat.reduceMul, Nat.reduceEqDiff, Go.Addr.add, ↓reduceIte] at hx387_1); (try simp only [show (1 : Int).toNat = 1 from rfl, Nat.reduceMul, Nat.reduceEqDiff, Go.Addr.add, ↓reduceIte] at hx387_2); (try simp only [show (1 : Int).toNat = 1 from rfl, Nat.reduceMul, Nat.reduceEqDiff, Go.Addr.add, ↓reduceIte] at hx387_3); have qi387 : (1 < t365.length) = True := eq_true (by omega); (try rw [show ((1 : Int)).toNat = 1 from rfl] at hx387_0); (try rw [show 1 * 4 = 4 from rfl] at hx387_0); (try rw [show ((1 : Int)).toNat = 1 from rfl] at hx387_1); (try rw [show 1 * 4 = 4 from rfl] at hx387_1); (try rw [show ((1 : Int)).toNat = 1 from rfl] at hx387_2); (try rw [show 1 * 4 = 4 from rfl] at hx387_2); (try rw [show ((1 : Int)).toNat = 1 from rfl] at hx387_3); (try rw [show 1 * 4 = 4 from rfl] at hx387_3); replace p387 := eq_true p387; replace q387 := eq_true q387; have p388 : 0 ≤ (3 : Int) := (by omega); have q388 : 3 < (t365.length : Int) := of_decide_eq_true (by first | (with_reducible assumption) | assumption); obtain ⟨ad388, e388, hx388_0, hx388_1, hx388_2, hx388_3⟩ := at_T46 (Kd.R_reads' HO367.out).2.2 3 p388 q388; obtain rfl : ad387 = ad388 := (by injection e388); (try simp only [show (3 : Int).toNat = 3 from rfl, Nat.reduceMul, Nat.reduceEqDiff, Go.Addr.add, ↓reduceIte] at hx388_0); (try simp only [show (3 : Int).toNat = 3 from rfl, Nat.reduceMul, Nat.reduceEqDiff, Go.Addr.add, ↓reduceIte] at hx388_1); (try simp only [show (3 : Int).toNat = 3 from rfl, Nat.reduceMul, Nat.reduceEqDiff, Go.Addr.add, ↓reduceIte] at hx388_2); (try simp only [show (3 : Int).toNat = 3 from rfl, Nat.reduceMul, Nat.reduceEqDiff, Go.Addr.add, ↓reduceIte] at hx388_3); have qi388 : (3 < t365.length) = True := eq_true (by omega); (try rw [show ((3 : Int)).toNat = 3 from rfl] at hx388_0); (try rw [show 3 * 4 = 12 from rfl] at hx388_0); (try rw [show ((3 : Int)).toNat = 3 from rfl] at hx388_1); (try rw [show 3 * 4 = 12 from rfl] at hx388_1); (try rw [show ((3 : Int)).toNat = 3 from rfl] at hx388_2); (try rw [show 3 * 4 = 12 from rfl] at hx388_2); (try rw [show ((3 : Int)).toNat = 3 from rfl] at hx388_3); (try rw [show 3 * 4 = 12 from rfl] at hx388_3); replace p388 := eq_true p388; replace q388 := eq_true q388; have p389 : 0 ≤ (5 : Int) := (by omega); have q389 : 5 < (t365.length : Int) := of_decide_eq_true (by first | (with_reducible assumption) | assumption); obtain ⟨ad389, e389, hx389_0, hx389_1, hx389_2, hx389_3⟩ := at_T46 (Kd.R_reads' HO367.out).2.2 5 p389 q389; obtain rfl : ad387 = ad389 := (by injection e389); (try simp only [show (5 : Int).toNat = 5 from rfl, Nat.reduceMul, Nat.reduceEqDiff, Go.Addr.add, ↓reduceIte] at hx389_0); (try simp only [show (5 : Int).toNat = 5 from rfl, Nat.reduceMul, Nat.reduceEqDiff, Go.Addr.add, ↓reduceIte] at hx389_1); (try simp only [show (5 : Int).toNat = 5 from rfl, Nat.reduceMul, Nat.reduceEqDiff, Go.Addr.add, ↓reduceIte] at hx389_2); (try simp only [show (5 : Int).toNat = 5 from rfl, Nat.reduceMul, Nat.reduceEqDiff, Go.Addr.add, ↓reduceIte] at hx389_3); have qi389 : (5 < t365.length) = True := eq_true (by omega); (try rw [show ((5 : Int)).toNat = 5 from rfl] at hx389_0); (try rw [show 5 * 4 = 20 from rfl] at hx389_0); (try rw [show ((5 : Int)).toNat = 5 from rfl] at hx389_1); (try rw [show 5 * 4 = 20 from rfl] at hx389_1); (try rw [show ((5 : Int)).toNat = 5 from rfl] at hx389_2); (try rw [show 5 * 4 = 20 from rfl] at hx389_2); (try rw [show ((5 : Int)).toNat = 5 from rfl] at hx389_3); (try rw [show 5 * 4 = 20 from rfl] at hx389_3); replace p389 := eq_true p389; replace q389 := eq_true q389; have hcz38_0 : w35.cell? ⟨gb376, 0, none⟩ = some (.int .i64 t374) := (blk_cell BK376.out 0).trans rfl; have hcz38_1 : w35.cell? ⟨gb376, 1, none⟩ = some (.int .i64 t375) := (blk_cell BK376.out 1).trans rfl; have hfz38_0 := blk_frozen BK376.out 0; have hfz38_1 := blk_frozen BK376.out 1; have hcz39_0 : w35.cell? ⟨gb382, 0, none⟩ = some (.int .i64 t380) := (blk_cell BK382.out 0).trans rfl; have hcz39_1 : w35.cell? ⟨gb382, 1, none⟩ = some (.int .i64 t381) := (blk_cell BK382.out 1).trans rfl; have hfz39_0 := blk_frozen BK382.out 0; have hfz39_1 := blk_frozen BK382.out 1; have p390 : 0 ≤ (4 : Int) := (by omega); have q390 : 4 < (t365.length : Int) := of_decide_eq_true (by first | (with_reducible assumption) | assumption); obtain ⟨ad390, e390, hx390_0, hx390_1, hx390_2, hx390_3⟩ := at_T46 (Kd.R_reads' HO367.out).2.2 4 p390 q390; obtain rfl : ad387 = ad390 := (by injection e390); (try simp only [show (4 : Int).toNat = 4 from rfl, Nat.reduceMul, Nat.reduceEqDiff, Go.Addr.add, ↓reduceIte] at hx390_0); (try simp only [show (4 : Int).toNat = 4 from rfl, Nat.reduceMul, Nat.reduceEqDiff, Go.Addr.add, ↓reduceIte] at hx390_1); (try simp only [show (4 : Int).toNat = 4 from rfl, Nat.reduceMul, Nat.reduceEqDiff, Go.Addr.add, ↓reduceIte] at hx390_2); (try simp only [show (4 : Int).toNat = 4 from rfl, Nat.reduceMul, Nat.reduceEqDiff, Go.Addr.add, ↓reduceIte] at hx390_3); have qi390 : (4 < t365.length) = True := eq_true (by omega); (try rw [show ((4 : Int)).toNat = 4 from rfl] at hx390_0); (try rw [show 4 * 4 = 16 from rfl] at hx390_0); (try rw [show ((4 : Int)).toNat = 4 from rfl] at hx390_1); (try rw [show 4 * 4 = 16 from rfl] at hx390_1); (try rw [show ((4 : Int)).toNat = 4 from rfl] at hx390_2); (try rw [show 4 * 4 = 16 from rfl] at hx390_2); (try rw [show ((4 : Int)).toNat = 4 from rfl] at hx390_3); (try rw [show 4 * 4 = 16 from rfl] at hx390_3); replace p390 := eq_true p390; replace q390 := eq_true q390) | (go_at_call 36; (with_reducible refine (lexer_Valid.calls k ((rd_T46 t365 4).f0) ((rd_T46 t365 4).f1) ((rd_T46 t365 4).f2) ((rd_T46 t365 4).f3) t391 _ A21.out).mono ?_); rintro e w40 ⟨rfl, hb⟩; have n0_ := Aside0.mk (Kd.R_below (by (with_reducible repeat (first | apply Kd.R_alloc | apply Kd.R_drewN | apply Kd.R_drew)); exact HO367.out) hb); have n1_ := Aside0.mk (Kd.R_below (by (with_reducible repeat (first | apply Kd.R_alloc | apply Kd.R_drewN | apply Kd.R_drew)); exact HO373.out) hb); have n2_ := Aside0.mk (Kd.R_below (by (with_reducible repeat (first | apply Kd.R_alloc | apply Kd.R_drewN | apply Kd.R_drew)); exact HO379.out) hb); have n3_ := Aside0.mk (blk_below (g := gb370) (o := .cells #[.int .i64 t368, .int .i64 t369] 26 (0, 0)) (bk_ BK370.out) hb); have n4_ := Aside0.mk (blk_below (g := gb376) (o := .cells #[.int .i64 t374, .int .i64 t375] 26 (0, 0)) (bk_ BK376.out) hb); have n5_ := Aside0.mk (blk_below (g := gb382) (o := .cells #[.int .i64 t380, .int .i64 t381] 26 (0, 0)) (bk_ BK382.out) hb); have n6_ := Aside0.mk (below_step (bl3_ HB.out GE370.out GE376.out GE382.out) hb); clear HO367; clear HO373; clear HO379; clear BK370; clear BK376; clear BK382; clear HB; have HO367 := n0_; have HO373 := n1_; have HO379 := n2_; have BK370 := n3_; have BK376 := n4_; have BK382 := n5_; have HB := n6_; clear n0_ n1_ n2_ n3_ n4_ n5_ n6_; (try clear hb); (try clear hb2); (try clear hk); (try clear hi)))
                                go_ret
                                exact ⟨er_, bl3_ HB.out GE370.out GE376.out GE382.out⟩
                              · rw [if_neg c20] at H
                                exact absurd H (by simp)
                            · rw [if_neg c19] at H
                              exact absurd H (by simp)
                          · rw [if_neg c18] at H
                            exact absurd H (by simp)
                        · rw [if_neg c17] at H
                          exact absurd H (by simp)
                      · rw [if_neg c16] at H
                        exact absurd H (by simp)
                    · rw [if_neg c15] at H
                      exact absurd H (by simp)
                  · rw [if_neg c14] at H
                    exact absurd H (by simp)
                · rw [if_neg c13] at H
                  exact absurd H (by simp)
              · rw [if_neg c12] at H
                exact absurd H (by simp)
            · rw [if_neg c11] at H
              exact absurd H (by simp)
          · rw [if_neg c10] at H
            exact absurd H (by simp)
        · rw [if_neg c9] at H
          exact absurd H (by simp)
      · rw [if_neg c8] at H
        exact absurd H (by simp)
    · rw [if_neg c7] at H
      exact absurd H (by simp)
  · rw [if_neg c6] at H
    exact absurd H (by simp)
end Go.Proofs.YtkifdadhojbohaaDoor.Pr
namespace Go.Proofs.YtkifdadhojbohaaDoor.Pu
open Go.RowKit Go.Proofs.YtkifdadhojbohaaDoor Go.Proofs.YtkifdadhojbohaaDoor.Pr Go.Proofs.YtkifdadhojbohaaDoorW.PrintWords Go.Proofs.YtkifdadhojbohaaDoorW.PrintLast
theorem awake_f : Ev (fun k => salchowlaw09_awake.f k) true := Ev.of (fun k => salchowlaw09_awake.mono k) (show salchowlaw09_awake.f 60 = some true by kernel_rfl)
theorem lexL_length : ∀ (f : Nat) (l : List UInt8) (ts : List Tok), lexL f l = .ok ts → ts.length ≤ f := by
  intro f
  induction f with
  | zero => intro l ts h; simp only [lexL, Except.ok.injEq] at h; subst h; simp
  | succ f ih =>
    intro l ts h
    simp only [lexL] at h
    split at h
    · cases h
    · split at h
      · simp only [Except.ok.injEq] at h; subst h; simp
      · split at h
        · cases h
        · rename_i us hu
          simp only [Except.ok.injEq] at h
          subst h
          have := ih _ _ hu
          simp only [List.length_cons]; omega
theorem lexAns_length (s : ByteArray) : (lexAns s.size [] (lexL (s.size + 1) (lst s))).1.length ≤ s.size + 1 := by
  cases h : lexL (s.size + 1) (lst s) with
  | error e => simp [lexAns]
  | ok ts =>
    have := lexL_length _ _ _ h
    simpa [lexAns] using this
theorem lexL_fuel : ∀ (f g : Nat) (l : List UInt8), l.length < f → l.length < g → lexL f l = lexL g l := by
  intro f
  induction f with
  | zero => intro g l h; omega
  | succ f ih =>
    intro g l hf hg
    cases g with
    | zero => omega
    | succ g =>
      have hsk := (skipL_suffix l false).length_le
      simp only [lexL]
      by_cases hc : (tokL (skipL false l)).code = 0
      · have hc2 : ¬ (tokL (skipL false l)).code ≠ 0 := by simp [hc]
        simp only [if_neg hc2]
        by_cases h0 : skipL false l = []
        · simp only [if_pos h0]
        · simp only [if_neg h0]
          obtain ⟨h1, h2⟩ := tok_suffix (skipL false l) hc
          obtain ⟨h3, h4⟩ := h2 h0
          rw [ih g _ (by omega) (by omega)]
      · simp only [if_pos (show (tokL (skipL false l)).code ≠ 0 from hc)]
theorem lexL_err : ∀ (f : Nat) (l : List UInt8) (e : Int × Nat), lexL f l = .error e → e.2 ≤ l.length := by
  intro f
  induction f with
  | zero => intro l e h; simp [lexL] at h
  | succ f ih =>
    intro l e h
    have hsk := (skipL_suffix l false).length_le
    simp only [lexL] at h
    by_cases hc : (tokL (skipL false l)).code = 0
    · rw [if_neg (by simp [hc])] at h
      by_cases h0 : skipL false l = []
      · rw [if_pos h0] at h; cases h
      · rw [if_neg h0] at h
        obtain ⟨h1, h2⟩ := tok_suffix (skipL false l) hc
        obtain ⟨h3, h4⟩ := h2 h0
        split at h
        · rename_i x hx
          have := ih _ _ hx
          cases h
          omega
        · cases h
    · rw [if_pos hc] at h
      cases h
      exact hsk
theorem lexL_skip (f : Nat) (l m : List UInt8) (h : skipL false l = skipL false m) : lexL (f + 1) l = lexL (f + 1) m := by
  simp only [lexL]
  rw [h]
end Go.Proofs.YtkifdadhojbohaaDoor.Pu
