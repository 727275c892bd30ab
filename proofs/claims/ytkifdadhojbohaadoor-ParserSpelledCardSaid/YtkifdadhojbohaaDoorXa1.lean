/- Joined out of the texts of this proof that bear the names PrF31 PrF63 PrF36 PrF56 PrF26 PrF30 PrF51: what each shows stands over it there. -/
import Derived.Test.YtkifdadhojbohaaDoorXk1
import Derived.Test.YtkifdadhojbohaaDoorXc1
import Derived.Test.YtkifdadhojbohaaDoorXb1
import Derived.Test.YtkifdadhojbohaaDoorXe1
set_option linter.unusedVariables false
set_option linter.unusedSimpArgs false
namespace Go.Proofs.YtkifdadhojbohaaDoor.Pr
open Go.Proofs.YtkifdadhojbohaaDoor
open Go.RowKit Go.Proofs.YtkifdadhojbohaaDoorW.PrintWords Go.Proofs.YtkifdadhojbohaaDoorW.PrintLast Go.Proofs.YtkifdadhojbohaaDoorW.PrintMore
attribute [local go_sem] max2_int min2_int max_two min_two max_three min_three max_four min_four   -- for this text's walks alone
set_option linter.unusedVariables false
set_option linter.unusedSimpArgs false
/-! ### parser_Depth: function 31 -/
mutual
def parser_Depth.l0 : Nat → Int → List (S41) → Int → Int → Option (Int)
 | 0, _, _, _, _ => none
 | k + 1, x3, x6, x7, x8 => if x8 < x7 then (if 0 ≤ x8 then (if x8 < (x6.length : Int) then (if (rd_T41 x6 x8).f2 = true then ((parser_Depth.f k ((rd_T41 x6 x8).f3)).bind fun t181 => (parser_Depth.l0 k (mx x3 (wrap64 (1 + t181))) x6 x7 (wrap64 (x8 + 1)))) else (parser_Depth.l0 k x3 x6 x7 (wrap64 (x8 + 1)))) else (none)) else (none)) else (some x3)
def parser_Depth.f : Nat → List (S41) → Option (Int)
 | 0, _ => none
 | k + 1, l0 => parser_Depth.l0 k 0 l0 (l0.length : Int) 0
end
theorem parser_Depth.mono_l : ∀ k, (∀ y0, LeO (parser_Depth.f k y0) (parser_Depth.f (k + 1) y0)) ∧ (∀ y0 y1 y2 y3, LeO (parser_Depth.l0 k y0 y1 y2 y3) (parser_Depth.l0 (k + 1) y0 y1 y2 y3))
 | 0 => ⟨fun _ r h => by simp [parser_Depth.f] at h, fun _ _ _ _ r h => by simp [parser_Depth.l0] at h⟩
 | k + 1 => by
  obtain ⟨ih0, ih1⟩ := parser_Depth.mono_l k
  refine ⟨?_, ?_⟩
  ·
   intro y0
   unfold parser_Depth.f
   repeat' first
   | (with_reducible exact LeO.refl _)
   | exact ih0 _
   | exact ih1 _ _ _ _
   | exact LeO.none _
   | refine LeO.ite ?_ ?_
   | refine LeO.bind ?_ (fun _ => ?_)
  ·
   intro y0 y1 y2 y3
   unfold parser_Depth.l0
   repeat' first
   | (with_reducible exact LeO.refl _)
   | exact ih0 _
   | exact ih1 _ _ _ _
   | exact LeO.none _
   | refine LeO.ite ?_ ?_
   | refine LeO.bind ?_ (fun _ => ?_)
theorem parser_Depth.mono : ∀ a0 k, LeO (parser_Depth.f k a0) (parser_Depth.f (k + 1) a0) := by
 intro a0 k
 obtain ⟨ih0, ih1⟩ := parser_Depth.mono_l k
 exact ih0 a0
set_option maxHeartbeats 8000000 in
set_option maxRecDepth 100000 in
theorem parser_Depth.calls (k : Nat) : ∀ (A0 : Option Addr) (c0 : Nat) (l0 : List (S41)) (r : Int) (w : World) (hr0 : Kd.C k41 w A0 l0.length l0) (hc0 : l0.length ≤ c0) (h : parser_Depth.f k l0 = some r),
  Calls Tryd.prog 31 #[.slice A0 l0.length c0] w fun e w' => e = .returned (.int .i64 r) ∧ Below w.heap.size w w' := by
 induction k using Nat.strongRecOn with
 | _ k ih =>
 intro A0 c0 l0 r w hr0 hc0 h
 cases k with
 | zero => exact absurd h (by simp [parser_Depth.f])
 | succ k =>
 simp only [parser_Depth.f] at h
 have hu41 := Tryd.underlying41
 have HR0 := Aside0.mk hr0
 have HC0 := Aside0.mk hc0
 clear hr0 hc0
 have HB := Aside0.mk (Below.refl w.heap.size w)
 have H : (parser_Depth.l0 k 0 l0 (l0.length : Int) 0) = some r := h
 clear h
 have H' := Aside0.mk H
 clear H
 go_enter Tryd.func31, Tryd.ntmps31
 go_wp2
 go_loopg [3, 8] k (fun kq v3 v8 w' => ∃ (x3_1 : Int) (x8_1 : Int), v3 = .int .i64 x3_1 ∧ v8 = .int .i64 x8_1 ∧ Aside0 (parser_Depth.l0 kq x3_1 l0 (l0.length : Int) x8_1 = some r) ∧ Aside0 (kq ≤ k) ∧ Aside0 (Below w.heap.size w w'))
 case atStart => exact ⟨(0), (0), sr_, sr_, H', ⟨Nat.le_refl _⟩, ⟨bl_ HB.out⟩⟩
 case round =>
  clear H'
  obtain ⟨x3_1, x8_1, rfl, rfl, HA, HK1, HB⟩ := hrel
  cases gk with
  | zero => exact absurd HA.out (by simp [parser_Depth.l0])
  | succ k1 =>
   have H := HA.out
   clear HA
   simp only [parser_Depth.l0] at H
   by_cases c2 : x8_1 < (l0.length : Int)
   ·
    rw [if_pos c2] at H
    have c2b0 := decide_eq_true c2
    clear c2
    by_cases c3 : 0 ≤ x8_1
    ·
     rw [if_pos c3] at H
     have c3b0 := decide_eq_true c3
     clear c3
     by_cases c4 : x8_1 < (l0.length : Int)
     ·
      rw [if_pos c4] at H
      have c4b0 := decide_eq_true c4
      clear c4
      obtain ⟨bq5, hbq5⟩ : ∃ b_ : Bool, b_ = ((rd_T41 l0 x8_1).f2) := ⟨_, rfl⟩
      replace H : (if bq5 = true then ((parser_Depth.f k1 ((rd_T41 l0 x8_1).f3)).bind fun t181 => (parser_Depth.l0 k1 (mx x3_1 (wrap64 (1 + t181))) l0 (l0.length : Int) (wrap64 (x8_1 + 1)))) else (parser_Depth.l0 k1 x3_1 l0 (l0.length : Int) (wrap64 (x8_1 + 1)))) = some r := by rw [← hbq5] at H; exact H
      have Nbq5 := Aside0.mk hbq5
      clear hbq5
      by_cases c6 : bq5 = true
      ·
       subst c6
       have H1 : ((parser_Depth.f k1 ((rd_T41 l0 x8_1).f3)).bind fun t181 => (parser_Depth.l0 k1 (mx x3_1 (wrap64 (1 + t181))) l0 (l0.length : Int) (wrap64 (x8_1 + 1)))) = some r := by rw [if_pos rfl] at H; exact H
       clear H
       have H := H1
       clear H1
       replace H := Option.bind_eq_some_iff.mp H
       obtain ⟨t181, A70, H⟩ := H
       (try dsimp only at H)
       have A7 := Aside0.mk A70
       clear A70
       obtain ⟨ji8, hji8⟩ : ∃ j_ : Int, (mx x3_1 (wrap64 (1 + t181))) = j_ := ⟨_, rfl⟩
       replace H : (parser_Depth.l0 k1 ji8 l0 (l0.length : Int) (wrap64 (x8_1 + 1))) = some r := by first | (rw [hji8] at H; exact H) | (simp only [hji8] at H ⊢; exact H)
       (try rw [hji8] at A7)
       have hji8_ : (if x3_1 < (wrap64 (1 + t181)) then (wrap64 (1 + t181)) else x3_1) = ji8 := hji8
       have H' := Aside0.mk H
       clear H
       have p179 : 0 ≤ (x8_1 : Int) := dt_
       have q179 : x8_1 < (l0.length : Int) := dt_
       obtain ⟨ad179, A179_1, c179_1, A179_3, c179_3, e179, hx179_0, hx179_1, hx179_2, hx179_3, hx179_4, hl179_1, hi179_1, hl179_3, hi179_3⟩ := at_T41 HR0.out x8_1 p179 q179
       (try rw [← Nbq5.out] at hx179_2)
       cases e179
       replace hx179_0 := pw_cell_below HB.out hx179_0
       replace hx179_1 := pw_cell_below HB.out hx179_1
       replace hx179_2 := pw_cell_below HB.out hx179_2
       replace hx179_3 := pw_cell_below HB.out hx179_3
       replace hx179_4 := pw_cell_below HB.out hx179_4
       have HR179_1 := Aside0.mk hi179_1
       have HC179_1 := Aside0.mk hl179_1
       clear hi179_1 hl179_1
       have HR179_3 := Aside0.mk hi179_3
       have HC179_3 := Aside0.mk hl179_3
       clear hi179_3 hl179_3
       replace p179 := eq_true p179
       replace q179 := eq_true q179
       go_wp2_with (first | ((with_reducible refine gate_dst (N := 5) rfl ?_); refine bx_ (N := 5) (cs := #[.string (⟨#[]⟩ : ByteArray), .slice none 0 0, .bool false, .slice none 0 0, .int .i64 0]) (t := 41) ?_; intro gb180 hg w9 hbox hb; refine cut4_ (below_step (bl_ HB.out) hb) (hbox) (bz_ (w := w) hg (bl_ HB.out)) (bz_ (w := w) hg (bl_ HB.out)) ?_; clear HB; intro HB BK180 GW180 GE180; clear hb hbox hg; obtain ⟨hcz10_0, hcz10_1, hcz10_2, hcz10_3, hcz10_4, hfz10_0, hfz10_1, hfz10_2, hfz10_3, hfz10_4⟩ := cq5_ BK180.out) | ((with_reducible refine gate_callee (f := 31) rfl ?_); refine goesL_ (some 17) rfl rfl Tryd.func31 (by kernel_rfl) rfl #[.slice A179_3 ((rd_T41 l0 x8_1).f3).length c179_3] rfl ga_ ?_; (with_reducible refine (ih k1 (by have := HK1.out; omega) _ _ ((rd_T41 l0 x8_1).f3) t181 _ ?side1 ?side2 A7.out).mono ?_); (case side1 => exact Kd.C_below HR179_3.out (bl1_ HB.out GE180.out)); (case side2 => exact HC179_3.out); rintro e w11 ⟨rfl, hb⟩; refine ⟨_, rfl, ?_⟩; refine cut2_ (blk_below (g := gb180) (o := .cells #[.string ((rd_T41 l0 x8_1).f0), .slice A179_1 ((rd_T41 l0 x8_1).f1).length c179_1, .bool true, .slice A179_3 ((rd_T41 l0 x8_1).f3).length c179_3, .int .i64 ((rd_T41 l0 x8_1).f4)] 41 (0, 0)) (put5_ (bk_ BK180.out)) hb) (below_step (bl1_ HB.out GE180.out) hb) ?_; clear BK180 HB; intro BK180 HB; (try clear hb); (try clear hb2); (try clear hk); (try clear hi)))
       go_roundg k1
       case measure => have := HK1.out; omega
       case rel => exact ⟨(ji8), (wrap64 (x8_1 + 1)), (by first | rfl | (simp; done) | (simp only [← hji8] <;> (first | rfl | simp)) | (simp [*]; done)), sr_, H', ⟨by have := HK1.out; omega⟩, ⟨bl1_ HB.out GE180.out⟩⟩
      ·
       replace c6 := Bool.eq_false_iff.mpr c6
       subst c6
       have H1 : (parser_Depth.l0 k1 x3_1 l0 (l0.length : Int) (wrap64 (x8_1 + 1))) = some r := by rw [if_neg (show ¬ (false = true) by decide)] at H; exact H
       clear H
       have H := H1
       clear H1
       have H' := Aside0.mk H
       clear H
       have p179 : 0 ≤ (x8_1 : Int) := dt_
       have q179 : x8_1 < (l0.length : Int) := dt_
       obtain ⟨ad179, A179_1, c179_1, A179_3, c179_3, e179, hx179_0, hx179_1, hx179_2, hx179_3, hx179_4, hl179_1, hi179_1, hl179_3, hi179_3⟩ := at_T41 HR0.out x8_1 p179 q179
       (try rw [← Nbq5.out] at hx179_2)
       cases e179
       replace hx179_0 := pw_cell_below HB.out hx179_0
       replace hx179_1 := pw_cell_below HB.out hx179_1
       replace hx179_2 := pw_cell_below HB.out hx179_2
       replace hx179_3 := pw_cell_below HB.out hx179_3
       replace hx179_4 := pw_cell_below HB.out hx179_4
       have HR179_1 := Aside0.mk hi179_1
       have HC179_1 := Aside0.mk hl179_1
       clear hi179_1 hl179_1
       have HR179_3 := Aside0.mk hi179_3
       have HC179_3 := Aside0.mk hl179_3
       clear hi179_3 hl179_3
       replace p179 := eq_true p179
       replace q179 := eq_true q179
       go_wp2_with (first | ((with_reducible refine gate_dst (N := 5) rfl ?_); refine bx_ (N := 5) (cs := #[.string (⟨#[]⟩ : ByteArray), .slice none 0 0, .bool false, .slice none 0 0, .int .i64 0]) (t := 41) ?_; intro gb180 hg w12 hbox hb; refine cut4_ (below_step (bl_ HB.out) hb) (hbox) (bz_ (w := w) hg (bl_ HB.out)) (bz_ (w := w) hg (bl_ HB.out)) ?_; clear HB; intro HB BK180 GW180 GE180; clear hb hbox hg; obtain ⟨hcz13_0, hcz13_1, hcz13_2, hcz13_3, hcz13_4, hfz13_0, hfz13_1, hfz13_2, hfz13_3, hfz13_4⟩ := cq5_ BK180.out))
       go_roundg k1
       case measure => have := HK1.out; omega
       case rel => exact ⟨(x3_1), (wrap64 (x8_1 + 1)), sr_, sr_, H', ⟨by have := HK1.out; omega⟩, ⟨bl1_ HB.out GE180.out⟩⟩
     ·
      rw [if_neg c4] at H
      exact absurd H (by simp)
    ·
     rw [if_neg c3] at H
     exact absurd H (by simp)
   ·
    rw [if_neg c2] at H
    have c2b0 := decide_eq_false c2
    clear c2
    obtain rfl := Option.some.inj H
    go_wp2
    go_ret
    exact ⟨er_, bl_ HB.out⟩
/-! ### lexer_isWord: function 63 -/
def lexer_isWord.l0 : Nat → ByteArray → Int → Int → Option (Bool)
 | 0, _, _, _ => none
 | k + 1, x0, x5, x6 => if x6 < x5 then (if 0 ≤ x6 then (if x6 < (x0.size : Int) then ((lexer_isRun.f (bt x0 x6)).bind fun t182 => (if t182 = true then (lexer_isWord.l0 k x0 x5 (wrap64 (x6 + 1))) else (some false))) else (none)) else (none)) else ((lexer_word.f k x0).bind fun t183 => (some (t183 == 0)))
def lexer_isWord.f (k : Nat) (a0 : ByteArray) : Option (Bool) := lexer_isWord.l0 k a0 (a0.size : Int) 0
theorem lexer_isWord.mono_l : ∀ k, (∀ y0 y1 y2, LeO (lexer_isWord.l0 k y0 y1 y2) (lexer_isWord.l0 (k + 1) y0 y1 y2))
 | 0 => fun _ _ _ r h => by simp [lexer_isWord.l0] at h
 | k + 1 => by
  have ih0 := lexer_isWord.mono_l k
  ·
   intro y0 y1 y2
   unfold lexer_isWord.l0
   repeat' first
   | (with_reducible exact LeO.refl _)
   | exact ih0 _ _ _
   | exact lexer_word.mono _ _
   | exact LeO.none _
   | refine LeO.ite ?_ ?_
   | refine LeO.bind ?_ (fun _ => ?_)
theorem lexer_isWord.mono : ∀ a0 k, LeO (lexer_isWord.f k a0) (lexer_isWord.f (k + 1) a0) := by
 intro a0 k
 have ih0 := lexer_isWord.mono_l k
 unfold lexer_isWord.f
 repeat' first
   | (with_reducible exact LeO.refl _)
   | exact ih0 _ _ _
   | exact lexer_word.mono _ _
   | exact LeO.none _
   | refine LeO.ite ?_ ?_
   | refine LeO.bind ?_ (fun _ => ?_)
set_option maxHeartbeats 8000000 in
set_option maxRecDepth 100000 in
theorem lexer_isWord.calls (k : Nat) (a0 : ByteArray) (r : Bool) (w : World) (h : lexer_isWord.f k a0 = some r) :
  Calls Tryd.prog 63 #[.string a0] w fun e w' => e = .returned (.bool r) ∧ Below w.heap.size w w' := by
 have HB := Aside0.mk (Below.refl w.heap.size w)
 have H : (lexer_isWord.l0 k a0 (a0.size : Int) 0) = some r := h
 clear h
 have H' := Aside0.mk H
 clear H
 go_enter Tryd.func63, Tryd.ntmps63
 go_wp2
 go_loopg [6] k (fun kq v6 w' => ∃ (x6_1 : Int), v6 = .int .i64 x6_1 ∧ Aside0 (lexer_isWord.l0 kq a0 (a0.size : Int) x6_1 = some r) ∧ Aside0 (kq ≤ k) ∧ Aside0 (Below w.heap.size w w'))
 case atStart => exact ⟨(0), sr_, H', ⟨Nat.le_refl _⟩, ⟨bl_ HB.out⟩⟩
 case round =>
  clear H'
  obtain ⟨x6_1, rfl, HA, HK1, HB⟩ := hrel
  cases gk with
  | zero => exact absurd HA.out (by simp [lexer_isWord.l0])
  | succ k1 =>
   have H := HA.out
   clear HA
   simp only [lexer_isWord.l0] at H
   by_cases c2 : x6_1 < (a0.size : Int)
   ·
    rw [if_pos c2] at H
    have c2b0 := decide_eq_true c2
    clear c2
    by_cases c3 : 0 ≤ x6_1
    ·
     rw [if_pos c3] at H
     have c3b0 := decide_eq_true c3
     clear c3
     by_cases c4 : x6_1 < (a0.size : Int)
     ·
      rw [if_pos c4] at H
      have c4b0 := decide_eq_true c4
      clear c4
      replace H := Option.bind_eq_some_iff.mp H
      obtain ⟨t182, A60, H⟩ := H
      (try dsimp only at H)
      have A6 := Aside0.mk A60
      clear A60
      by_cases c7 : t182 = true
      ·
       subst c7
       have H1 : (lexer_isWord.l0 k1 a0 (a0.size : Int) (wrap64 (x6_1 + 1))) = some r := by rw [if_pos rfl] at H; exact H
       clear H
       have H := H1
       clear H1
       have H' := Aside0.mk H
       clear H
       have p5 : 0 ≤ (x6_1 : Int) := dt_
       have q5 : x6_1 < (a0.size : Int) := dt_
       have hx5 := bt_at a0 x6_1
       replace p5 := eq_true p5
       replace q5 := eq_true q5
       go_wp2_with (first | ((with_reducible refine gate_callee (f := 82) rfl ?_); refine goesL_ (some 12) rfl rfl Tryd.func82 (by kernel_rfl) rfl #[.int .u8 (bt a0 x6_1)] rfl ga_ ?_; (with_reducible refine (lexer_isRun.calls (bt a0 x6_1) true _ A6.out).mono ?_); rintro e w8 ⟨rfl, hb⟩; refine ⟨_, rfl, ?_⟩; refine cut1_ (below_step (bl_ HB.out) hb) ?_; clear HB; intro HB; (try clear hb); (try clear hb2); (try clear hk); (try clear hi)))
       go_roundg k1
       case measure => have := HK1.out; omega
       case rel => exact ⟨(wrap64 (x6_1 + 1)), sr_, H', ⟨by have := HK1.out; omega⟩, ⟨bl_ HB.out⟩⟩
      ·
       replace c7 := Bool.eq_false_iff.mpr c7
       subst c7
       have H1 : (some false) = some r := by rw [if_neg (show ¬ (false = true) by decide)] at H; exact H
       clear H
       have H := H1
       clear H1
       obtain rfl := Option.some.inj H
       have p5 : 0 ≤ (x6_1 : Int) := dt_
       have q5 : x6_1 < (a0.size : Int) := dt_
       have hx5 := bt_at a0 x6_1
       replace p5 := eq_true p5
       replace q5 := eq_true q5
       go_wp2_with (first | ((with_reducible refine gate_callee (f := 82) rfl ?_); refine goesL_ (some 12) rfl rfl Tryd.func82 (by kernel_rfl) rfl #[.int .u8 (bt a0 x6_1)] rfl ga_ ?_; (with_reducible refine (lexer_isRun.calls (bt a0 x6_1) false _ A6.out).mono ?_); rintro e w9 ⟨rfl, hb⟩; refine ⟨_, rfl, ?_⟩; refine cut1_ (below_step (bl_ HB.out) hb) ?_; clear HB; intro HB; (try clear hb); (try clear hb2); (try clear hk); (try clear hi)))
       go_ret
       exact ⟨er_, bl_ HB.out⟩
     ·
      rw [if_neg c4] at H
      exact absurd H (by simp)
    ·
     rw [if_neg c3] at H
     exact absurd H (by simp)
   ·
    rw [if_neg c2] at H
    have c2b0 := decide_eq_false c2
    clear c2
    replace H := Option.bind_eq_some_iff.mp H
    obtain ⟨t183, A100, H⟩ := H
    (try dsimp only at H)
    have A10 := Aside0.mk A100
    clear A100
    obtain rfl := Option.some.inj H
    go_wp2_with (first | ((with_reducible refine gate_callee (f := 91) rfl ?_); refine goesL_ (some 16) rfl rfl Tryd.func91 (by kernel_rfl) rfl #[.string a0] rfl ga_ ?_; (with_reducible refine (lexer_word.calls k1 a0 t183 _ A10.out).mono ?_); rintro e w11 ⟨rfl, hb⟩; refine ⟨_, rfl, ?_⟩; refine cut1_ (below_step (bl_ HB.out) hb) ?_; clear HB; intro HB; (try clear hb); (try clear hb2); (try clear hk); (try clear hi)))
    go_ret
    exact ⟨er_, bl_ HB.out⟩
/-! ### lexer_Valid: function 36 -/
def lexer_Valid.j0 : Nat → Bool → Int → ByteArray → Int → Int → Option (Bool)
 | 0, _, _, _, _, _ => none
 | k + 1, x10, x185000, x185001, x185002, x185003 => if x10 = true then (some false) else (if x185000 = 1 then (if x185001.toList = ([] : List UInt8) then (some false) else ((lexer_isWord.f k x185001).bind fun t185 => (some t185))) else (if x185000 = 2 then (if x185001.toList = ([] : List UInt8) then (if 0 ≤ x185002 then (some (decide (x185002 ≤ 1000000000))) else (some false)) else (some false)) else (if x185000 = 3 then ((lexer_title.f k x185001).bind fun t186 => (some (t186 == 0))) else (if x185000 = 4 then (if (x185001.size : Int) = 1 then ((lexer_kinds.f).bind fun t187 => (if 0 < (x185001.size : Int) then (if 0 ≤ (bt x185001 0) then (if (bt x185001 0) < 256 then (some ((lexer_kinds.at_ (bt x185001 0)) == 5)) else (none)) else (none)) else (none))) else (some false)) else (if x185000 = 5 then (some (x185001.toList == ([] : List UInt8))) else (some false))))))
def lexer_Valid.f (k : Nat) (a0_0 : Int) (a0_1 : ByteArray) (a0_2 : Int) (a0_3 : Int) : Option (Bool) := if a0_0 = 2 then (lexer_Valid.j0 k false a0_0 a0_1 a0_2 a0_3) else (lexer_Valid.j0 k (a0_2 != 0) a0_0 a0_1 a0_2 a0_3)
theorem lexer_Valid.mono_l : ∀ k, (∀ y0 y1 y2 y3 y4, LeO (lexer_Valid.j0 k y0 y1 y2 y3 y4) (lexer_Valid.j0 (k + 1) y0 y1 y2 y3 y4))
 | 0 => fun _ _ _ _ _ r h => by simp [lexer_Valid.j0] at h
 | k + 1 => by
  have ih0 := lexer_Valid.mono_l k
  ·
   intro y0 y1 y2 y3 y4
   unfold lexer_Valid.j0
   repeat' first
   | (with_reducible exact LeO.refl _)
   | exact ih0 _ _ _ _ _
   | exact lexer_isWord.mono _ _
   | exact lexer_title.mono _ _
   | exact LeO.none _
   | refine LeO.ite ?_ ?_
   | refine LeO.bind ?_ (fun _ => ?_)
theorem lexer_Valid.mono : ∀ a0 a1 a2 a3 k, LeO (lexer_Valid.f k a0 a1 a2 a3) (lexer_Valid.f (k + 1) a0 a1 a2 a3) := by
 intro a0 a1 a2 a3 k
 have ih0 := lexer_Valid.mono_l k
 unfold lexer_Valid.f
 repeat' first
   | (with_reducible exact LeO.refl _)
   | exact ih0 _ _ _ _ _
   | exact lexer_isWord.mono _ _
   | exact lexer_title.mono _ _
   | exact LeO.none _
   | refine LeO.ite ?_ ?_
   | refine LeO.bind ?_ (fun _ => ?_)
def lexer_Valid.T11 : Bool × List (List Nat × List Nat) := (true, [([], []), ([0], [0]), ([1], [1]), ([2], [2]), ([3], [3]), ([4, 4], [4]), ([4], [4]), ([6, 4], [4, 6]), ([7, 4], [4, 7]), ([5, 8, 4], [4, 5, 8]), ([9, 4], [4, 9]), ([4, 10], [4, 10]), ([11, 5, 0, 1, 2, 3, 4, 5, 6, 7, 8, 9, 10, 11], [11])])
def lexer_Valid.B11 : List Nat := [0, 1, 3, 7, 15, 31, 31, 95, 223, 511, 1023, 2047, 4095]
theorem lexer_Valid.tab11 : rtab .any (opsOf Tryd.f36 11) = lexer_Valid.T11 := by kernel_rfl
theorem lexer_Valid.bits11 : waitsOk lexer_Valid.T11.2 lexer_Valid.B11 = true := by kernel_rfl
set_option maxHeartbeats 8000000 in
set_option maxRecDepth 100000 in
theorem lexer_Valid.calls (k : Nat) (a0_0 : Int) (a0_1 : ByteArray) (a0_2 : Int) (a0_3 : Int) (r : Bool) (w : World) (h : lexer_Valid.f k a0_0 a0_1 a0_2 a0_3 = some r) :
  Calls Tryd.prog 36 #[.agg #[.int .i64 a0_0, .string a0_1, .int .i64 a0_2, .int .i64 a0_3]] w fun e w' => e = .returned (.bool r) ∧ Below w.heap.size w w' := by
 have hu46 := Tryd.underlying46
 have HB := Aside0.mk (Below.refl w.heap.size w)
 have H : (if a0_0 = 2 then (lexer_Valid.j0 k false a0_0 a0_1 a0_2 a0_3) else (lexer_Valid.j0 k (a0_2 != 0) a0_0 a0_1 a0_2 a0_3)) = some r := h
 clear h
 have HC2 := Aside0.mk H
 clear H
 go_enter Tryd.func36, Tryd.ntmps36
 go_upto_region 1 with (first | ((with_reducible refine gate_dst (N := 1) rfl ?_); refine bx_ (N := 1) (cs := #[.int .i64 a0_0, .string a0_1, .int .i64 a0_2, .int .i64 a0_3]) (t := 46) ?_; intro gb184 hg w3 hbox hb; have n0_ := Aside0.mk (below_step (bl_ HB.out) hb); have n1_ := Aside0.mk (hbox); have n2_ := Aside0.mk (bz_ (w := w) hg (bl_ HB.out)); have n3_ := Aside0.mk (bz_ (w := w) hg (bl_ HB.out)); clear HB; have HB := n0_; have BK184 := n1_; have GW184 := n2_; have GE184 := n3_; clear n0_ n1_ n2_ n3_; clear hb hbox hg))
 (try simp only [Act.put, List.setIfInBounds_toArray, List.set_cons_zero, List.set_cons_succ])
 go_cut [10] (fun v10 wc => ∃ (kq : Nat) (x10_1 : Bool), v10 = .bool x10_1 ∧ Aside0 (lexer_Valid.j0 kq x10_1 a0_0 a0_1 a0_2 a0_3 = some r) ∧ Aside0 (kq ≤ k) ∧ Aside0 (wc.heap[gb184]? = some (.cells #[.int .i64 a0_0, .string a0_1, .int .i64 a0_2, .int .i64 a0_3] 46 (0, 0))) ∧ Aside0 (Below w.heap.size w wc))
 case first =>
  have H := HC2.out
  clear HC2
  by_cases c4 : a0_0 = 2
  ·
   rw [if_pos c4] at H
   have c4b0 := beq_iff_eq.mpr c4
   have c4b1 := bne_eq_false_iff_eq.mpr c4
   clear c4
   (first | rw [c4b0] | (simp only [i64_w, i32_w]; rw [c4b0]) | skip)
   have H' := Aside0.mk H
   clear H
   have hcz5_0 := cz_ (.int .i64 a0_0) BK184.out 0
   have hcz5_1 := cz_ (.string a0_1) BK184.out 1
   have hcz5_2 := cz_ (.int .i64 a0_2) BK184.out 2
   have hcz5_3 := cz_ (.int .i64 a0_3) BK184.out 3
   have hfz5_0 := blk_frozen BK184.out 0
   have hfz5_1 := blk_frozen BK184.out 1
   have hfz5_2 := blk_frozen BK184.out 2
   have hfz5_3 := blk_frozen BK184.out 3
   go_wp2
   go_meet
   case rel => exact ⟨_, (false), sr_, H', ⟨by first | omega | exact Nat.le_refl _⟩, ⟨by exact bk_ BK184.out⟩, ⟨bl1_ HB.out GE184.out⟩⟩
  ·
   rw [if_neg c4] at H
   have c4b0 := beq_eq_false_iff_ne.mpr c4
   have c4b1 := bne_iff_ne.mpr c4
   (first | rw [c4b0] | (simp only [i64_w, i32_w]; rw [c4b0]) | skip)
   have H' := Aside0.mk H
   clear H
   have hcz6_0 := cz_ (.int .i64 a0_0) BK184.out 0
   have hcz6_1 := cz_ (.string a0_1) BK184.out 1
   have hcz6_2 := cz_ (.int .i64 a0_2) BK184.out 2
   have hcz6_3 := cz_ (.int .i64 a0_3) BK184.out 3
   have hfz6_0 := blk_frozen BK184.out 0
   have hfz6_1 := blk_frozen BK184.out 1
   have hfz6_2 := blk_frozen BK184.out 2
   have hfz6_3 := blk_frozen BK184.out 3
   go_wp2
   go_meet
   case rel => exact ⟨_, ((a0_2 != 0)), sr_, H', ⟨by first | omega | exact Nat.le_refl _⟩, ⟨by exact bk_ BK184.out⟩, ⟨bl1_ HB.out GE184.out⟩⟩
 case rest =>
  clear HC2
  try clear p2
  try clear c3
  try clear c4
  try clear c4b0
  try clear c4b1
  try clear hcz5_0
  try clear hcz5_1
  try clear hcz5_2
  try clear hcz5_3
  try clear hcz6_0
  try clear hcz6_1
  try clear hcz6_2
  try clear hcz6_3
  try clear hfz5_0
  try clear hfz5_1
  try clear hfz5_2
  try clear hfz5_3
  try clear hfz6_0
  try clear hfz6_1
  try clear hfz6_2
  try clear hfz6_3
  obtain ⟨kq, x10_1, rfl, HA, HJ1, BK184, HB⟩ := hcut
  cases kq with
  | zero => exact absurd HA.out (by simp [lexer_Valid.j0])
  | succ kj1 =>
   have H := HA.out
   clear HA
   simp only [lexer_Valid.j0] at H
   by_cases c7 : x10_1 = true
   ·
    subst c7
    have H1 : (some false) = some r := by rw [if_pos rfl] at H; exact H
    clear H
    have H := H1
    clear H1
    obtain rfl := Option.some.inj H
    go_wp2
    go_ret
    exact ⟨er_, bl1_ HB.out GE184.out⟩
   ·
    replace c7 := Bool.eq_false_iff.mpr c7
    subst c7
    have H1 : (if a0_0 = 1 then (if a0_1.toList = ([] : List UInt8) then (some false) else ((lexer_isWord.f kj1 a0_1).bind fun t185 => (some t185))) else (if a0_0 = 2 then (if a0_1.toList = ([] : List UInt8) then (if 0 ≤ a0_2 then (some (decide (a0_2 ≤ 1000000000))) else (some false)) else (some false)) else (if a0_0 = 3 then ((lexer_title.f kj1 a0_1).bind fun t186 => (some (t186 == 0))) else (if a0_0 = 4 then (if (a0_1.size : Int) = 1 then ((lexer_kinds.f).bind fun t187 => (if 0 < (a0_1.size : Int) then (if 0 ≤ (bt a0_1 0) then (if (bt a0_1 0) < 256 then (some ((lexer_kinds.at_ (bt a0_1 0)) == 5)) else (none)) else (none)) else (none))) else (some false)) else (if a0_0 = 5 then (some (a0_1.toList == ([] : List UInt8))) else (some false)))))) = some r := by rw [if_neg (show ¬ (false = true) by decide)] at H; exact H
    clear H
    have H := H1
    clear H1
    by_cases c8 : a0_0 = 1
    ·
     rw [if_pos c8] at H
     have c8b0 := beq_iff_eq.mpr c8
     have c8b1 := bne_eq_false_iff_eq.mpr c8
     clear c8
     by_cases c9 : a0_1.toList = ([] : List UInt8)
     ·
      rw [if_pos c9] at H
      have c9b0 := beq_iff_eq.mpr c9
      have c9b1 := bne_eq_false_iff_eq.mpr c9
      clear c9
      obtain rfl := Option.some.inj H
      have hcz10_0 := cz_ (.int .i64 a0_0) BK184.out 0
      have hcz10_1 := cz_ (.string a0_1) BK184.out 1
      have hcz10_2 := cz_ (.int .i64 a0_2) BK184.out 2
      have hcz10_3 := cz_ (.int .i64 a0_3) BK184.out 3
      have hfz10_0 := blk_frozen BK184.out 0
      have hfz10_1 := blk_frozen BK184.out 1
      have hfz10_2 := blk_frozen BK184.out 2
      have hfz10_3 := blk_frozen BK184.out 3
      go_wp2
      go_ret
      exact ⟨er_, bl1_ HB.out GE184.out⟩
     ·
      rw [if_neg c9] at H
      have c9b0 := beq_eq_false_iff_ne.mpr c9
      have c9b1 := bne_iff_ne.mpr c9
      replace H := Option.bind_eq_some_iff.mp H
      obtain ⟨t185, A110, H⟩ := H
      (try dsimp only at H)
      have A11 := Aside0.mk A110
      clear A110
      obtain rfl := Option.some.inj H
      have hcz12_0 := cz_ (.int .i64 a0_0) BK184.out 0
      have hcz12_1 := cz_ (.string a0_1) BK184.out 1
      have hcz12_2 := cz_ (.int .i64 a0_2) BK184.out 2
      have hcz12_3 := cz_ (.int .i64 a0_3) BK184.out 3
      have hfz12_0 := blk_frozen BK184.out 0
      have hfz12_1 := blk_frozen BK184.out 1
      have hfz12_2 := blk_frozen BK184.out 2
      have hfz12_3 := blk_frozen BK184.out 3
      go_wp2_with (first | (go_at_call 63; (with_reducible refine (lexer_isWord.calls kj1 a0_1 t185 _ A11.out).mono ?_); rintro e w13 ⟨rfl, hb⟩; refine cut2_ (bb_ BK184.out hb) (below_step (bl1_ HB.out GE184.out) hb) ?_; clear BK184 HB; intro BK184 HB; (try clear hb); (try clear hb2); (try clear hk); (try clear hi)))
      go_ret
      exact ⟨er_, bl1_ HB.out GE184.out⟩
    ·
     rw [if_neg c8] at H
     have c8b0 := beq_eq_false_iff_ne.mpr c8
     have c8b1 := bne_iff_ne.mpr c8
     by_cases c14 : a0_0 = 2
     ·
      rw [if_pos c14] at H
      have c14b0 := beq_iff_eq.mpr c14
      have c14b1 := bne_eq_false_iff_eq.mpr c14
      clear c14
      by_cases c15 : a0_1.toList = ([] : List UInt8)
      ·
       rw [if_pos c15] at H
       have c15b0 := beq_iff_eq.mpr c15
       have c15b1 := bne_eq_false_iff_eq.mpr c15
       clear c15
       by_cases c16 : 0 ≤ a0_2
       ·
        rw [if_pos c16] at H
        have c16b0 := decide_eq_true c16
        clear c16
        obtain rfl := Option.some.inj H
        have hcz17_0 := cz_ (.int .i64 a0_0) BK184.out 0
        have hcz17_1 := cz_ (.string a0_1) BK184.out 1
        have hcz17_2 := cz_ (.int .i64 a0_2) BK184.out 2
        have hcz17_3 := cz_ (.int .i64 a0_3) BK184.out 3
        have hfz17_0 := blk_frozen BK184.out 0
        have hfz17_1 := blk_frozen BK184.out 1
        have hfz17_2 := blk_frozen BK184.out 2
        have hfz17_3 := blk_frozen BK184.out 3
        go_wp2
        go_ret
        exact ⟨er_, bl1_ HB.out GE184.out⟩
       ·
        rw [if_neg c16] at H
        have c16b0 := decide_eq_false c16
        clear c16
        obtain rfl := Option.some.inj H
        have hcz18_0 := cz_ (.int .i64 a0_0) BK184.out 0
        have hcz18_1 := cz_ (.string a0_1) BK184.out 1
        have hcz18_2 := cz_ (.int .i64 a0_2) BK184.out 2
        have hcz18_3 := cz_ (.int .i64 a0_3) BK184.out 3
        have hfz18_0 := blk_frozen BK184.out 0
        have hfz18_1 := blk_frozen BK184.out 1
        have hfz18_2 := blk_frozen BK184.out 2
        have hfz18_3 := blk_frozen BK184.out 3
        go_wp2
        go_ret
        exact ⟨er_, bl1_ HB.out GE184.out⟩
      ·
       rw [if_neg c15] at H
       have c15b0 := beq_eq_false_iff_ne.mpr c15
       have c15b1 := bne_iff_ne.mpr c15
       obtain rfl := Option.some.inj H
       have hcz19_0 := cz_ (.int .i64 a0_0) BK184.out 0
       have hcz19_1 := cz_ (.string a0_1) BK184.out 1
       have hcz19_2 := cz_ (.int .i64 a0_2) BK184.out 2
       have hcz19_3 := cz_ (.int .i64 a0_3) BK184.out 3
       have hfz19_0 := blk_frozen BK184.out 0
       have hfz19_1 := blk_frozen BK184.out 1
       have hfz19_2 := blk_frozen BK184.out 2
       have hfz19_3 := blk_frozen BK184.out 3
       go_wp2
       go_ret
       exact ⟨er_, bl1_ HB.out GE184.out⟩
     ·
      rw [if_neg c14] at H
      have c14b0 := beq_eq_false_iff_ne.mpr c14
      have c14b1 := bne_iff_ne.mpr c14
      by_cases c20 : a0_0 = 3
      ·
       rw [if_pos c20] at H
       have c20b0 := beq_iff_eq.mpr c20
       have c20b1 := bne_eq_false_iff_eq.mpr c20
       clear c20
       replace H := Option.bind_eq_some_iff.mp H
       obtain ⟨t186, A210, H⟩ := H
       (try dsimp only at H)
       have A21 := Aside0.mk A210
       clear A210
       obtain rfl := Option.some.inj H
       have hcz22_0 := cz_ (.int .i64 a0_0) BK184.out 0
       have hcz22_1 := cz_ (.string a0_1) BK184.out 1
       have hcz22_2 := cz_ (.int .i64 a0_2) BK184.out 2
       have hcz22_3 := cz_ (.int .i64 a0_3) BK184.out 3
       have hfz22_0 := blk_frozen BK184.out 0
       have hfz22_1 := blk_frozen BK184.out 1
       have hfz22_2 := blk_frozen BK184.out 2
       have hfz22_3 := blk_frozen BK184.out 3
       go_wp2_with (first | ((with_reducible refine gate_callee (f := 64) rfl ?_); refine goesL_ (some 42) rfl rfl Tryd.func64 (by kernel_rfl) rfl #[.string a0_1] rfl ga_ ?_; (with_reducible refine (lexer_title.calls kj1 a0_1 t186 _ A21.out).mono ?_); rintro e w' ⟨rfl, ⟨nd, rfl⟩⟩; refine ⟨_, rfl, ?_⟩))
       go_ret
       exact ⟨er_, bl1_ HB.out GE184.out⟩
      ·
       rw [if_neg c20] at H
       have c20b0 := beq_eq_false_iff_ne.mpr c20
       have c20b1 := bne_iff_ne.mpr c20
       by_cases c23 : a0_0 = 4
       ·
        rw [if_pos c23] at H
        have c23b0 := beq_iff_eq.mpr c23
        have c23b1 := bne_eq_false_iff_eq.mpr c23
        clear c23
        by_cases c24 : (a0_1.size : Int) = 1
        ·
         rw [if_pos c24] at H
         have c24b0 := beq_iff_eq.mpr c24
         have c24b1 := bne_eq_false_iff_eq.mpr c24
         clear c24
         replace H := Option.bind_eq_some_iff.mp H
         obtain ⟨t187, A250, H⟩ := H
         (try dsimp only at H)
         have A25 := Aside0.mk A250
         clear A250
         by_cases c26 : 0 < (a0_1.size : Int)
         ·
          rw [if_pos c26] at H
          have c26b0 := decide_eq_true c26
          have c26b1 : decide (0 < a0_1.size) = true := decide_eq_true (by omega)
          clear c26
          by_cases c28 : 0 ≤ (bt a0_1 0)
          ·
           rw [if_pos c28] at H
           have c28b0 := decide_eq_true c28
           clear c28
           by_cases c29 : (bt a0_1 0) < 256
           ·
            rw [if_pos c29] at H
            have c29b0 := decide_eq_true c29
            clear c29
            obtain rfl := Option.some.inj H
            have hcz31_0 := cz_ (.int .i64 a0_0) BK184.out 0
            have hcz31_1 := cz_ (.string a0_1) BK184.out 1
            have hcz31_2 := cz_ (.int .i64 a0_2) BK184.out 2
            have hcz31_3 := cz_ (.int .i64 a0_3) BK184.out 3
            have hfz31_0 := blk_frozen BK184.out 0
            have hfz31_1 := blk_frozen BK184.out 1
            have hfz31_2 := blk_frozen BK184.out 2
            have hfz31_3 := blk_frozen BK184.out 3
            try go_wp2
            refine cut2_ (blk_drew BK184.out) (below_drew1 HB.out) ?_
            clear BK184 HB
            intro BK184 HB
            have p27 : 0 ≤ (0 : Int) := (by omega)
            have q27 : 0 < a0_1.size := (by have : (0 : Int) < (a0_1.size : Int) := dt_; omega)
            have hx27 : ∀ h : 0 < a0_1.size, ((a0_1[0]'h).toNat : Int) = bt a0_1 0 := bt_at a0_1 0
            clear p27
            have qi27 : (0 < (a0_1.size : Int)) = True := eq_true (dt_)
            replace q27 := eq_true q27
            refine start_ (n := 13) (S := fun w' => w'.cell? ⟨gb184, 0, none⟩ = some (.int .i64 a0_0) ∧ w'.cell? ⟨gb184, 1, none⟩ = some (.string a0_1) ∧ w'.cell? ⟨gb184, 2, none⟩ = some (.int .i64 a0_2) ∧ w'.cell? ⟨gb184, 3, none⟩ = some (.int .i64 a0_3)) (ds := []) #[false, false, false, false, false, false, false, false, false, false, false, false, false] (by kernel_rfl) rfl rfl ⟨(blk_cell BK184.out 0).trans rfl, (blk_cell BK184.out 1).trans rfl, (blk_cell BK184.out 2).trans rfl, (blk_cell BK184.out 3).trans rfl⟩ (fun hHeld => ?_); refine with_tabW lexer_Valid.tab11 lexer_Valid.bits11 (fun HT_ HW_ => ?_)
            generalize wc.drew = w32 at BK184 HB hHeld ⊢
            refine pr_ (i := 0) (N := some 46) #[true, false, false, false, false, false, false, false, false, false, false, false, false] (any_of HT_.out (by kernel_rfl)) ?_
            refine take_ (i := 1) (N := some 47) (v := ?_) (a' := ?_) #[true, true, false, false, false, false, false, false, false, false, false, false, false] rfl rfl (take_ofW HT_.out HW_.out (by kernel_rfl)) (fun _ _ _ h => h) (Or.inl ⟨by rfl, ?_⟩) hHeld ?_ ?_
            rotate_left
            ·
             rintro w' ⟨s0, s1, s2, s3⟩
             go_simp
             with_reducible rfl
            rotate_left
            ·
             simp only [Act.put, List.setIfInBounds_toArray, List.set_cons_zero, List.set_cons_succ, i64_w, i32_w]
             rfl
            refine pr_ (i := 2) (N := some 48) #[true, true, true, false, false, false, false, false, false, false, false, false, false] (any_of HT_.out (by kernel_rfl)) ?_
            refine pr_ (i := 3) (N := some 49) #[true, true, true, true, false, false, false, false, false, false, false, false, false] (any_of HT_.out (by kernel_rfl)) ?_
            refine pr_ (i := 4) (N := some 50) #[true, true, true, true, true, false, false, false, false, false, false, false, false] (any_of HT_.out (by kernel_rfl)) ?_
            refine pr_ (i := 6) (N := some 52) #[true, true, true, true, true, false, true, false, false, false, false, false, false] (any_of HT_.out (by kernel_rfl)) ?_
            refine take_ (i := 7) (N := some 53) (v := ?_) (a' := ?_) #[true, true, true, true, true, false, true, true, false, false, false, false, false] rfl rfl (take_ofW HT_.out HW_.out (by kernel_rfl)) (fun _ _ _ h => h) (Or.inl ⟨by rfl, ?_⟩) hHeld ?_ ?_
            rotate_left
            ·
             rintro w' ⟨s0, s1, s2, s3⟩
             go_simp
             with_reducible rfl
            rotate_left
            ·
             simp only [Act.put, List.setIfInBounds_toArray, List.set_cons_zero, List.set_cons_succ, i64_w, i32_w]
             rfl
            refine take_ (i := 8) (N := some 54) (v := ?_) (a' := ?_) #[true, true, true, true, true, false, true, true, true, false, false, false, false] rfl rfl (take_ofW HT_.out HW_.out (by kernel_rfl)) (fun _ _ _ h => h) (Or.inl ⟨by rfl, ?_⟩) hHeld ?_ ?_
            rotate_left
            ·
             rintro w' ⟨s0, s1, s2, s3⟩
             go_simp
             with_reducible rfl
            rotate_left
            ·
             simp only [Act.put, List.setIfInBounds_toArray, List.set_cons_zero, List.set_cons_succ, i64_w, i32_w]
             rfl
            refine one_ (i := 5) (N := some 51) #[true, true, true, true, true, true, true, true, true, false, false, false, false] rfl rfl (one_of HT_.out (by kernel_rfl)) (by decide) (fun K hK => ?_)
            refine goes_ Tryd.func65 (by kernel_rfl) rfl #[] (by rfl) rfl rfl ga_ ?_
            with_reducible refine (lexer_kinds.calls  t187 _ A25.out).mono ?_
            rintro e w33 ⟨rfl, hb⟩
            refine ⟨_, rfl, ?_⟩
            refine cut2_ (bb_ BK184.out hb) (below_step (bl1_ HB.out GE184.out) hb) ?_
            clear BK184 HB
            intro BK184 HB
            (try clear hb)
            (try clear hb2)
            (try clear hk)
            (try clear hi)
            have p30 : 0 ≤ ((bt a0_1 0) : Int) := dt_
            have q30 : ((bt a0_1 0) : Int) < 256 := dt_
            have hx30 := lexer_kinds.at_run A25.out (bt a0_1 0) p30 q30
            replace p30 := eq_true p30
            replace q30 := eq_true q30
            refine hK.out _ _ ⟨(blk_cell BK184.out 0).trans rfl, (blk_cell BK184.out 1).trans rfl, (blk_cell BK184.out 2).trans rfl, (blk_cell BK184.out 3).trans rfl⟩ (fun hHeld => ?_)
            clear hK K
            refine norm_ (a' := ?_) ?_ ?_
            rotate_left
            ·
             show Act.put _ (some 51) _ = _
             simp only [Act.put, List.setIfInBounds_toArray, List.set_cons_zero, List.set_cons_succ, i64_w, i32_w]
             rfl
            refine take_ (i := 9) (N := some 55) (v := ?_) (a' := ?_) #[true, true, true, true, true, true, true, true, true, true, false, false, false] rfl rfl (take_ofW HT_.out HW_.out (by kernel_rfl)) (fun _ _ _ h => h) (Or.inl ⟨by rfl, ?_⟩) hHeld ?_ ?_
            rotate_left
            ·
             rintro w' ⟨s0, s1, s2, s3⟩
             go_simp
             with_reducible rfl
            rotate_left
            ·
             simp only [Act.put, List.setIfInBounds_toArray, List.set_cons_zero, List.set_cons_succ, i64_w, i32_w]
             rfl
            refine pr_ (i := 10) (N := some 56) #[true, true, true, true, true, true, true, true, true, true, true, false, false] (any_of HT_.out (by kernel_rfl)) ?_
            refine pr_ (i := 11) (N := some 57) #[true, true, true, true, true, true, true, true, true, true, true, true, false] (any_of HT_.out (by kernel_rfl)) ?_
            refine pr_ (i := 12) (N := some 2) #[true, true, true, true, true, true, true, true, true, true, true, true, true] (any_of HT_.out (by kernel_rfl)) ?_
            refine done_ (done_of HT_.out (by kernel_rfl)) ?_
            try go_wp2
            go_ret
            exact ⟨er_, bl1_ HB.out GE184.out⟩
           ·
            rw [if_neg c29] at H
            exact absurd H (by simp)
          ·
           rw [if_neg c28] at H
           exact absurd H (by simp)
         ·
          rw [if_neg c26] at H
          exact absurd H (by simp)
        ·
         rw [if_neg c24] at H
         have c24b0 := beq_eq_false_iff_ne.mpr c24
         have c24b1 := bne_iff_ne.mpr c24
         obtain rfl := Option.some.inj H
         have hcz34_0 := cz_ (.int .i64 a0_0) BK184.out 0
         have hcz34_1 := cz_ (.string a0_1) BK184.out 1
         have hcz34_2 := cz_ (.int .i64 a0_2) BK184.out 2
         have hcz34_3 := cz_ (.int .i64 a0_3) BK184.out 3
         have hfz34_0 := blk_frozen BK184.out 0
         have hfz34_1 := blk_frozen BK184.out 1
         have hfz34_2 := blk_frozen BK184.out 2
         have hfz34_3 := blk_frozen BK184.out 3
         try go_wp2
         refine cut2_ (blk_drew BK184.out) (below_drew1 HB.out) ?_
         clear BK184 HB
         intro BK184 HB
         refine start_ (n := 13) (S := fun w' => w'.cell? ⟨gb184, 0, none⟩ = some (.int .i64 a0_0) ∧ w'.cell? ⟨gb184, 1, none⟩ = some (.string a0_1) ∧ w'.cell? ⟨gb184, 2, none⟩ = some (.int .i64 a0_2) ∧ w'.cell? ⟨gb184, 3, none⟩ = some (.int .i64 a0_3)) (ds := []) #[false, false, false, false, false, false, false, false, false, false, false, false, false] (by kernel_rfl) rfl rfl ⟨(blk_cell BK184.out 0).trans rfl, (blk_cell BK184.out 1).trans rfl, (blk_cell BK184.out 2).trans rfl, (blk_cell BK184.out 3).trans rfl⟩ (fun hHeld => ?_); refine with_tabW lexer_Valid.tab11 lexer_Valid.bits11 (fun HT_ HW_ => ?_)
         generalize wc.drew = w35 at BK184 HB hHeld ⊢
         refine pr_ (i := 0) (N := some 46) #[true, false, false, false, false, false, false, false, false, false, false, false, false] (any_of HT_.out (by kernel_rfl)) ?_
         refine take_ (i := 1) (N := some 47) (v := ?_) (a' := ?_) #[true, true, false, false, false, false, false, false, false, false, false, false, false] rfl rfl (take_ofW HT_.out HW_.out (by kernel_rfl)) (fun _ _ _ h => h) (Or.inl ⟨by rfl, ?_⟩) hHeld ?_ ?_
         rotate_left
         ·
          rintro w' ⟨s0, s1, s2, s3⟩
          go_simp
          with_reducible rfl
         rotate_left
         ·
          simp only [Act.put, List.setIfInBounds_toArray, List.set_cons_zero, List.set_cons_succ, i64_w, i32_w]
          rfl
         refine pr_ (i := 2) (N := some 48) #[true, true, true, false, false, false, false, false, false, false, false, false, false] (any_of HT_.out (by kernel_rfl)) ?_
         refine pr_ (i := 3) (N := some 49) #[true, true, true, true, false, false, false, false, false, false, false, false, false] (any_of HT_.out (by kernel_rfl)) ?_
         refine pr_ (i := 4) (N := some 50) #[true, true, true, true, true, false, false, false, false, false, false, false, false] (any_of HT_.out (by kernel_rfl)) ?_
         refine pure_ (i := 5) (N := some 51) (v := undef) (a' := ?_) #[true, true, true, true, true, true, false, false, false, false, false, false, false] rfl rfl (any_of HT_.out (by kernel_rfl)) (fun _ _ _ h => h) (Or.inr ⟨by rfl, rfl⟩) ?_ ?_
         rotate_left
         ·
          simp only [Act.put, List.setIfInBounds_toArray, List.set_cons_zero, List.set_cons_succ, i64_w, i32_w]
          rfl
         refine pure_ (i := 6) (N := some 52) (v := undef) (a' := ?_) #[true, true, true, true, true, true, true, false, false, false, false, false, false] rfl rfl (any_of HT_.out (by kernel_rfl)) (fun _ _ _ h => h) (Or.inr ⟨by rfl, rfl⟩) ?_ ?_
         rotate_left
         ·
          simp only [Act.put, List.setIfInBounds_toArray, List.set_cons_zero, List.set_cons_succ, i64_w, i32_w]
          rfl
         refine pure_ (i := 7) (N := some 53) (v := undef) (a' := ?_) #[true, true, true, true, true, true, true, true, false, false, false, false, false] rfl rfl (any_of HT_.out (by kernel_rfl)) (fun _ _ _ h => h) (Or.inr ⟨by rfl, rfl⟩) ?_ ?_
         rotate_left
         ·
          simp only [Act.put, List.setIfInBounds_toArray, List.set_cons_zero, List.set_cons_succ, i64_w, i32_w]
          rfl
         refine pure_ (i := 8) (N := some 54) (v := undef) (a' := ?_) #[true, true, true, true, true, true, true, true, true, false, false, false, false] rfl rfl (any_of HT_.out (by kernel_rfl)) (fun _ _ _ h => h) (Or.inr ⟨by rfl, rfl⟩) ?_ ?_
         rotate_left
         ·
          simp only [Act.put, List.setIfInBounds_toArray, List.set_cons_zero, List.set_cons_succ, i64_w, i32_w]
          rfl
         refine pure_ (i := 9) (N := some 55) (v := undef) (a' := ?_) #[true, true, true, true, true, true, true, true, true, true, false, false, false] rfl rfl (any_of HT_.out (by kernel_rfl)) (fun _ _ _ h => h) (Or.inr ⟨by rfl, rfl⟩) ?_ ?_
         rotate_left
         ·
          simp only [Act.put, List.setIfInBounds_toArray, List.set_cons_zero, List.set_cons_succ, i64_w, i32_w]
          rfl
         refine pure_ (i := 10) (N := some 56) (v := undef) (a' := ?_) #[true, true, true, true, true, true, true, true, true, true, true, false, false] rfl rfl (any_of HT_.out (by kernel_rfl)) (fun _ _ _ h => h) (Or.inr ⟨by rfl, rfl⟩) ?_ ?_
         rotate_left
         ·
          simp only [Act.put, List.setIfInBounds_toArray, List.set_cons_zero, List.set_cons_succ, i64_w, i32_w]
          rfl
         refine pr_ (i := 11) (N := some 57) #[true, true, true, true, true, true, true, true, true, true, true, true, false] (any_of HT_.out (by kernel_rfl)) ?_
         refine pr_ (i := 12) (N := some 2) #[true, true, true, true, true, true, true, true, true, true, true, true, true] (any_of HT_.out (by kernel_rfl)) ?_
         refine done_ (done_of HT_.out (by kernel_rfl)) ?_
         try go_wp2
         go_ret
         exact ⟨er_, bl1_ HB.out GE184.out⟩
       ·
        rw [if_neg c23] at H
        have c23b0 := beq_eq_false_iff_ne.mpr c23
        have c23b1 := bne_iff_ne.mpr c23
        by_cases c36 : a0_0 = 5
        ·
         rw [if_pos c36] at H
         have c36b0 := beq_iff_eq.mpr c36
         have c36b1 := bne_eq_false_iff_eq.mpr c36
         clear c36
         obtain rfl := Option.some.inj H
         have hcz37_0 := cz_ (.int .i64 a0_0) BK184.out 0
         have hcz37_1 := cz_ (.string a0_1) BK184.out 1
         have hcz37_2 := cz_ (.int .i64 a0_2) BK184.out 2
         have hcz37_3 := cz_ (.int .i64 a0_3) BK184.out 3
         have hfz37_0 := blk_frozen BK184.out 0
         have hfz37_1 := blk_frozen BK184.out 1
         have hfz37_2 := blk_frozen BK184.out 2
         have hfz37_3 := blk_frozen BK184.out 3
         go_wp2
         go_ret
         exact ⟨er_, bl1_ HB.out GE184.out⟩
        ·
         rw [if_neg c36] at H
         have c36b0 := beq_eq_false_iff_ne.mpr c36
         have c36b1 := bne_iff_ne.mpr c36
         obtain rfl := Option.some.inj H
         have hcz38_0 := cz_ (.int .i64 a0_0) BK184.out 0
         have hcz38_1 := cz_ (.string a0_1) BK184.out 1
         have hcz38_2 := cz_ (.int .i64 a0_2) BK184.out 2
         have hcz38_3 := cz_ (.int .i64 a0_3) BK184.out 3
         have hfz38_0 := blk_frozen BK184.out 0
         have hfz38_1 := blk_frozen BK184.out 1
         have hfz38_2 := blk_frozen BK184.out 2
         have hfz38_3 := blk_frozen BK184.out 3
         go_wp2
         go_ret
         exact ⟨er_, bl1_ HB.out GE184.out⟩
/-! ### parser_formed: function 56 -/
mutual
def parser_formed.l0 : Nat → List (S41) → Int → Int → Option (Bool)
 | 0, _, _, _ => none
 | k + 1, x7, x8, x9 => if x9 < x8 then (if 0 ≤ x9 then (if x9 < (x7.length : Int) then ((lexer_Valid.f k 1 ((rd_T41 x7 x9).f0) 0 0).bind fun t190 => (if t190 = true then (if ((rd_T41 x7 x9).f2 = true) then (parser_formed.l1 k x7 x8 x9 ((rd_T41 x7 x9).f1) (((rd_T41 x7 x9).f1).length : Int) 0 ((rd_T41 x7 x9).f0) ((rd_T41 x7 x9).f1) ((rd_T41 x7 x9).f2) ((rd_T41 x7 x9).f3) ((rd_T41 x7 x9).f4)) else (if (((rd_T41 x7 x9).f3).length : Int) > 0 then (some false) else (parser_formed.l1 k x7 x8 x9 ((rd_T41 x7 x9).f1) (((rd_T41 x7 x9).f1).length : Int) 0 ((rd_T41 x7 x9).f0) ((rd_T41 x7 x9).f1) ((rd_T41 x7 x9).f2) ((rd_T41 x7 x9).f3) ((rd_T41 x7 x9).f4)))) else (some false))) else (none)) else (none)) else (some true)
def parser_formed.l1 : Nat → List (S41) → Int → Int → List (S46) → Int → Int → ByteArray → List (S46) → Bool → List (S41) → Int → Option (Bool)
 | 0, _, _, _, _, _, _, _, _, _, _, _ => none
 | k + 1, x7, x8, x9, x30, x31, x32, x190000, x190001, x190002, x190003, x190004 => if x32 < x31 then (if 0 ≤ x32 then (if x32 < (x30.length : Int) then ((parser_atom.f ((rd_T46 x30 x32).f0) ((rd_T46 x30 x32).f1) ((rd_T46 x30 x32).f2) ((rd_T46 x30 x32).f3)).bind fun t193 => (if t193 = true then ((lexer_Valid.f k ((rd_T46 x30 x32).f0) ((rd_T46 x30 x32).f1) ((rd_T46 x30 x32).f2) ((rd_T46 x30 x32).f3)).bind fun t194 => (if t194 = true then (parser_formed.l1 k x7 x8 x9 x30 x31 (wrap64 (x32 + 1)) x190000 x190001 x190002 x190003 x190004) else (some false))) else (some false))) else (none)) else (none)) else ((parser_formed.f k x190003).bind fun t195 => (if t195 = true then (parser_formed.l0 k x7 x8 (wrap64 (x9 + 1))) else (some false)))
def parser_formed.f : Nat → List (S41) → Option (Bool)
 | 0, _ => none
 | k + 1, l0 => parser_formed.l0 k l0 (l0.length : Int) 0
end
theorem parser_formed.mono_l : ∀ k, (∀ y0, LeO (parser_formed.f k y0) (parser_formed.f (k + 1) y0)) ∧ (∀ y0 y1 y2, LeO (parser_formed.l0 k y0 y1 y2) (parser_formed.l0 (k + 1) y0 y1 y2)) ∧ (∀ y0 y1 y2 y3 y4 y5 y6 y7 y8 y9 y10, LeO (parser_formed.l1 k y0 y1 y2 y3 y4 y5 y6 y7 y8 y9 y10) (parser_formed.l1 (k + 1) y0 y1 y2 y3 y4 y5 y6 y7 y8 y9 y10))
 | 0 => ⟨fun _ r h => by simp [parser_formed.f] at h, fun _ _ _ r h => by simp [parser_formed.l0] at h, fun _ _ _ _ _ _ _ _ _ _ _ r h => by simp [parser_formed.l1] at h⟩
 | k + 1 => by
  obtain ⟨ih0, ih1, ih2⟩ := parser_formed.mono_l k
  refine ⟨?_, ?_, ?_⟩
  ·
   intro y0
   unfold parser_formed.f
   repeat' first
   | (with_reducible exact LeO.refl _)
   | exact ih0 _
   | exact ih1 _ _ _
   | exact ih2 _ _ _ _ _ _ _ _ _ _ _
   | exact lexer_Valid.mono _ _ _ _ _
   | exact LeO.none _
   | refine LeO.ite ?_ ?_
   | refine LeO.bind ?_ (fun _ => ?_)
  ·
   intro y0 y1 y2
   unfold parser_formed.l0
   repeat' first
   | (with_reducible exact LeO.refl _)
   | exact ih0 _
   | exact ih1 _ _ _
   | exact ih2 _ _ _ _ _ _ _ _ _ _ _
   | exact lexer_Valid.mono _ _ _ _ _
   | exact LeO.none _
   | refine LeO.ite ?_ ?_
   | refine LeO.bind ?_ (fun _ => ?_)
  ·
   intro y0 y1 y2 y3 y4 y5 y6 y7 y8 y9 y10
   unfold parser_formed.l1
   repeat' first
   | (with_reducible exact LeO.refl _)
   | exact ih0 _
   | exact ih1 _ _ _
   | exact ih2 _ _ _ _ _ _ _ _ _ _ _
   | exact lexer_Valid.mono _ _ _ _ _
   | exact LeO.none _
   | refine LeO.ite ?_ ?_
   | refine LeO.bind ?_ (fun _ => ?_)
theorem parser_formed.mono : ∀ a0 k, LeO (parser_formed.f k a0) (parser_formed.f (k + 1) a0) := by
 intro a0 k
 obtain ⟨ih0, ih1, ih2⟩ := parser_formed.mono_l k
 exact ih0 a0
set_option maxHeartbeats 8000000 in
set_option maxRecDepth 100000 in
theorem parser_formed.calls (k : Nat) : ∀ (A0 : Option Addr) (c0 : Nat) (l0 : List (S41)) (r : Bool) (w : World) (hr0 : Kd.C k41 w A0 l0.length l0) (hc0 : l0.length ≤ c0) (h : parser_formed.f k l0 = some r),
  Calls Tryd.prog 56 #[.slice A0 l0.length c0] w fun e w' => e = .returned (.bool r) ∧ Below w.heap.size w w' := by
 induction k using Nat.strongRecOn with
 | _ k ih =>
 intro A0 c0 l0 r w hr0 hc0 h
 cases k with
 | zero => exact absurd h (by simp [parser_formed.f])
 | succ k =>
 simp only [parser_formed.f] at h
 have hu41 := Tryd.underlying41
 have hu46 := Tryd.underlying46
 have HR0 := Aside0.mk hr0
 have HC0 := Aside0.mk hc0
 clear hr0 hc0
 have HB := Aside0.mk (Below.refl w.heap.size w)
 have H : (parser_formed.l0 k l0 (l0.length : Int) 0) = some r := h
 clear h
 have H' := Aside0.mk H
 clear H
 go_enter Tryd.func56, Tryd.ntmps56
 go_wp2
 go_loopg [9] k (fun kq v9 w' => ∃ (x9_1 : Int), v9 = .int .i64 x9_1 ∧ Aside0 (parser_formed.l0 kq l0 (l0.length : Int) x9_1 = some r) ∧ Aside0 (kq ≤ k) ∧ Aside0 (Below w.heap.size w w'))
 case atStart => exact ⟨(0), sr_, H', ⟨Nat.le_refl _⟩, ⟨bl_ HB.out⟩⟩
 case round =>
  clear H'
  obtain ⟨x9_1, rfl, HA, HK1, HB⟩ := hrel
  cases gk with
  | zero => exact absurd HA.out (by simp [parser_formed.l0])
  | succ k1 =>
   have H := HA.out
   clear HA
   simp only [parser_formed.l0] at H
   by_cases c2 : x9_1 < (l0.length : Int)
   ·
    rw [if_pos c2] at H
    have c2b0 := decide_eq_true c2
    clear c2
    by_cases c3 : 0 ≤ x9_1
    ·
     rw [if_pos c3] at H
     have c3b0 := decide_eq_true c3
     clear c3
     by_cases c4 : x9_1 < (l0.length : Int)
     ·
      rw [if_pos c4] at H
      have c4b0 := decide_eq_true c4
      clear c4
      replace H := Option.bind_eq_some_iff.mp H
      obtain ⟨t190, A50, H⟩ := H
      (try dsimp only at H)
      have A5 := Aside0.mk A50
      clear A50
      by_cases c6 : t190 = true
      ·
       subst c6
       have H1 : (if ((rd_T41 l0 x9_1).f2 = true) then (parser_formed.l1 k1 l0 (l0.length : Int) x9_1 ((rd_T41 l0 x9_1).f1) (((rd_T41 l0 x9_1).f1).length : Int) 0 ((rd_T41 l0 x9_1).f0) ((rd_T41 l0 x9_1).f1) ((rd_T41 l0 x9_1).f2) ((rd_T41 l0 x9_1).f3) ((rd_T41 l0 x9_1).f4)) else (if (((rd_T41 l0 x9_1).f3).length : Int) > 0 then (some false) else (parser_formed.l1 k1 l0 (l0.length : Int) x9_1 ((rd_T41 l0 x9_1).f1) (((rd_T41 l0 x9_1).f1).length : Int) 0 ((rd_T41 l0 x9_1).f0) ((rd_T41 l0 x9_1).f1) ((rd_T41 l0 x9_1).f2) ((rd_T41 l0 x9_1).f3) ((rd_T41 l0 x9_1).f4)))) = some r := by rw [if_pos rfl] at H; exact H
       clear H
       have H := H1
       clear H1
       obtain ⟨bq7, hbq7⟩ : ∃ b_ : Bool, b_ = ((rd_T41 l0 x9_1).f2) := ⟨_, rfl⟩
       replace H : (if (bq7 = true) then (parser_formed.l1 k1 l0 (l0.length : Int) x9_1 ((rd_T41 l0 x9_1).f1) (((rd_T41 l0 x9_1).f1).length : Int) 0 ((rd_T41 l0 x9_1).f0) ((rd_T41 l0 x9_1).f1) bq7 ((rd_T41 l0 x9_1).f3) ((rd_T41 l0 x9_1).f4)) else (if (((rd_T41 l0 x9_1).f3).length : Int) > 0 then (some false) else (parser_formed.l1 k1 l0 (l0.length : Int) x9_1 ((rd_T41 l0 x9_1).f1) (((rd_T41 l0 x9_1).f1).length : Int) 0 ((rd_T41 l0 x9_1).f0) ((rd_T41 l0 x9_1).f1) bq7 ((rd_T41 l0 x9_1).f3) ((rd_T41 l0 x9_1).f4)))) = some r := by rw [← hbq7] at H; exact H
       have Nbq7 := Aside0.mk hbq7
       clear hbq7
       by_cases c8 : (bq7 = true)
       ·
        subst c8
        have H1 : (parser_formed.l1 k1 l0 (l0.length : Int) x9_1 ((rd_T41 l0 x9_1).f1) (((rd_T41 l0 x9_1).f1).length : Int) 0 ((rd_T41 l0 x9_1).f0) ((rd_T41 l0 x9_1).f1) true ((rd_T41 l0 x9_1).f3) ((rd_T41 l0 x9_1).f4)) = some r := by rw [if_pos rfl] at H; exact H
        clear H
        have H := H1
        clear H1
        have H' := Aside0.mk H
        clear H
        have p188 : 0 ≤ (x9_1 : Int) := dt_
        have q188 : x9_1 < (l0.length : Int) := dt_
        obtain ⟨ad188, A188_1, c188_1, A188_3, c188_3, e188, hx188_0, hx188_1, hx188_2, hx188_3, hx188_4, hl188_1, hi188_1, hl188_3, hi188_3⟩ := at_T41 HR0.out x9_1 p188 q188
        (try rw [← Nbq7.out] at hx188_2)
        cases e188
        replace hx188_0 := pw_cell_below HB.out hx188_0
        replace hx188_1 := pw_cell_below HB.out hx188_1
        replace hx188_2 := pw_cell_below HB.out hx188_2
        replace hx188_3 := pw_cell_below HB.out hx188_3
        replace hx188_4 := pw_cell_below HB.out hx188_4
        have HR188_1 := Aside0.mk hi188_1
        have HC188_1 := Aside0.mk hl188_1
        clear hi188_1 hl188_1
        have HR188_3 := Aside0.mk hi188_3
        have HC188_3 := Aside0.mk hl188_3
        clear hi188_3 hl188_3
        replace p188 := eq_true p188
        replace q188 := eq_true q188
        go_wp2_with (first | ((with_reducible refine gate_dst (N := 4) rfl ?_); (try (refine gate_guard (by rfl) ?_; dsimp only)); refine bx_ (N := 4) (cs := #[.string (⟨#[]⟩ : ByteArray), .slice none 0 0, .bool false, .slice none 0 0, .int .i64 0]) (t := 41) ?_; intro gb189 hg w9 hbox hb; refine cut4_ (below_step (bl_ HB.out) hb) (hbox) (bz_ (w := w) hg (bl_ HB.out)) (bz_ (w := w) hg (bl_ HB.out)) ?_; clear HB; intro HB BK189 GW189 GE189; clear hb hbox hg; obtain ⟨hcz10_0, hcz10_1, hcz10_2, hcz10_3, hcz10_4, hfz10_0, hfz10_1, hfz10_2, hfz10_3, hfz10_4⟩ := cq5_ BK189.out) | ((with_reducible refine gate_callee (f := 36) rfl ?_); refine goesL_ (some 16) rfl rfl Tryd.func36 (by kernel_rfl) rfl #[.agg #[.int .i64 1, .string ((rd_T41 l0 x9_1).f0), .int .i64 0, .int .i64 0]] rfl ga_ ?_; (with_reducible refine (lexer_Valid.calls k1 1 ((rd_T41 l0 x9_1).f0) 0 0 true _ A5.out).mono ?_); rintro e w11 ⟨rfl, hb⟩; refine ⟨_, rfl, ?_⟩; refine cut2_ (blk_below (g := gb189) (o := .cells #[.string ((rd_T41 l0 x9_1).f0), .slice A188_1 ((rd_T41 l0 x9_1).f1).length c188_1, .bool true, .slice A188_3 ((rd_T41 l0 x9_1).f3).length c188_3, .int .i64 ((rd_T41 l0 x9_1).f4)] 41 (0, 0)) (put5_ (bk_ BK189.out)) hb) (below_step (bl1_ HB.out GE189.out) hb) ?_; clear BK189 HB; intro BK189 HB; (try clear hb); (try clear hb2); (try clear hk); (try clear hi); obtain ⟨hcz12_0, hcz12_1, hcz12_2, hcz12_3, hcz12_4, hfz12_0, hfz12_1, hfz12_2, hfz12_3, hfz12_4⟩ := cq5_ BK189.out))
        go_loopg [32] k1 (fun kq v32 w' => ∃ (x32_2 : Int), v32 = .int .i64 x32_2 ∧ Aside0 (parser_formed.l1 kq l0 (l0.length : Int) x9_1 ((rd_T41 l0 x9_1).f1) (((rd_T41 l0 x9_1).f1).length : Int) x32_2 ((rd_T41 l0 x9_1).f0) ((rd_T41 l0 x9_1).f1) true ((rd_T41 l0 x9_1).f3) ((rd_T41 l0 x9_1).f4) = some r) ∧ Aside0 (kq ≤ k1) ∧ Aside0 (w'.heap[gb189]? = some (.cells #[.string ((rd_T41 l0 x9_1).f0), (.slice A188_1 ((rd_T41 l0 x9_1).f1).length c188_1), .bool true, (.slice A188_3 ((rd_T41 l0 x9_1).f3).length c188_3), .int .i64 ((rd_T41 l0 x9_1).f4)] 41 (0, 0))) ∧ Aside0 (Below w.heap.size w w'))
        case atStart => exact ⟨(0), sr_, H', ⟨Nat.le_refl _⟩, ⟨by exact bk_ BK189.out⟩, ⟨bl1_ HB.out GE189.out⟩⟩
        case round =>
         clear H'
         try clear c1
         try clear p1
         try clear q1
         try clear hx1
         try clear c2
         try clear c2b0
         try clear p2
         try clear c3
         try clear c3b0
         try clear c4
         try clear c4b0
         try clear c5
         try clear c6
         try clear q7
         try clear c8
         try clear hcz10_0
         try clear hcz10_1
         try clear hcz10_2
         try clear hcz10_3
         try clear hcz10_4
         try clear hcz12_0
         try clear hcz12_1
         try clear hcz12_2
         try clear hcz12_3
         try clear hcz12_4
         try clear hfz10_0
         try clear hfz10_1
         try clear hfz10_2
         try clear hfz10_3
         try clear hfz10_4
         try clear hfz12_0
         try clear hfz12_1
         try clear hfz12_2
         try clear hfz12_3
         try clear hfz12_4
         try clear hx188_0
         try clear hx188_1
         try clear hx188_2
         try clear hx188_3
         try clear hx188_4
         try clear p188
         try clear q188
         obtain ⟨x32_2, rfl, HA, HK2, BK189, HB⟩ := hrel
         cases gk with
         | zero => exact absurd HA.out (by simp [parser_formed.l1])
         | succ k2 =>
          have H := HA.out
          clear HA
          simp only [parser_formed.l1] at H
          by_cases c13 : x32_2 < (((rd_T41 l0 x9_1).f1).length : Int)
          ·
           rw [if_pos c13] at H
           have c13b0 := decide_eq_true c13
           clear c13
           by_cases c14 : 0 ≤ x32_2
           ·
            rw [if_pos c14] at H
            have c14b0 := decide_eq_true c14
            clear c14
            by_cases c15 : x32_2 < (((rd_T41 l0 x9_1).f1).length : Int)
            ·
             rw [if_pos c15] at H
             have c15b0 := decide_eq_true c15
             clear c15
             replace H := Option.bind_eq_some_iff.mp H
             obtain ⟨t193, A160, H⟩ := H
             (try dsimp only at H)
             have A16 := Aside0.mk A160
             clear A160
             by_cases c17 : t193 = true
             ·
              subst c17
              have H1 : ((lexer_Valid.f k2 ((rd_T46 ((rd_T41 l0 x9_1).f1) x32_2).f0) ((rd_T46 ((rd_T41 l0 x9_1).f1) x32_2).f1) ((rd_T46 ((rd_T41 l0 x9_1).f1) x32_2).f2) ((rd_T46 ((rd_T41 l0 x9_1).f1) x32_2).f3)).bind fun t194 => (if t194 = true then (parser_formed.l1 k2 l0 (l0.length : Int) x9_1 ((rd_T41 l0 x9_1).f1) (((rd_T41 l0 x9_1).f1).length : Int) (wrap64 (x32_2 + 1)) ((rd_T41 l0 x9_1).f0) ((rd_T41 l0 x9_1).f1) true ((rd_T41 l0 x9_1).f3) ((rd_T41 l0 x9_1).f4)) else (some false))) = some r := by rw [if_pos rfl] at H; exact H
              clear H
              have H := H1
              clear H1
              replace H := Option.bind_eq_some_iff.mp H
              obtain ⟨t194, A180, H⟩ := H
              (try dsimp only at H)
              have A18 := Aside0.mk A180
              clear A180
              by_cases c19 : t194 = true
              ·
               subst c19
               have H1 : (parser_formed.l1 k2 l0 (l0.length : Int) x9_1 ((rd_T41 l0 x9_1).f1) (((rd_T41 l0 x9_1).f1).length : Int) (wrap64 (x32_2 + 1)) ((rd_T41 l0 x9_1).f0) ((rd_T41 l0 x9_1).f1) true ((rd_T41 l0 x9_1).f3) ((rd_T41 l0 x9_1).f4)) = some r := by rw [if_pos rfl] at H; exact H
               clear H
               have H := H1
               clear H1
               have H' := Aside0.mk H
               clear H
               have p191 : 0 ≤ (x32_2 : Int) := dt_
               have q191 : x32_2 < (((rd_T41 l0 x9_1).f1).length : Int) := dt_
               obtain ⟨ad191, e191, hx191_0, hx191_1, hx191_2, hx191_3⟩ := at_T46 HR188_1.out x32_2 p191 q191
               cases e191
               replace hx191_0 := pw_cell_below HB.out hx191_0
               replace hx191_1 := pw_cell_below HB.out hx191_1
               replace hx191_2 := pw_cell_below HB.out hx191_2
               replace hx191_3 := pw_cell_below HB.out hx191_3
               replace p191 := eq_true p191
               replace q191 := eq_true q191
               go_wp2_with (first | ((with_reducible refine gate_dst (N := 6) rfl ?_); (try (refine gate_guard (by rfl) ?_; dsimp only)); refine bx_ (N := 6) (cs := #[.int .i64 0, .string (⟨#[]⟩ : ByteArray), .int .i64 0, .int .i64 0]) (t := 46) ?_; intro gb192 hg w20 hbox hb; refine cut7_ (bb_ BK189.out hb) (below_step (bl1_ HB.out GE189.out) hb) (hbox) (bz_ (w := w) hg (bl1_ HB.out GE189.out)) (bz_ (w := w) hg (bl1_ HB.out GE189.out)) (nl_ hg BK189.out) (ng_ hg BK189.out) ?_; clear BK189 HB; intro BK189 HB BK192 GW192 GE192 NB189_192 NB192_189; clear hb hbox hg; have hnb21 := NB192_189.out; have hnc21 := NB189_192.out; obtain ⟨hcz22_0, hcz22_1, hcz22_2, hcz22_3, hfz22_0, hfz22_1, hfz22_2, hfz22_3⟩ := cq4_ BK192.out) | ((with_reducible refine gate_callee (f := 85) rfl ?_); refine goesL_ (some 37) rfl rfl Tryd.func85 (by kernel_rfl) rfl #[.agg #[.int .i64 ((rd_T46 ((rd_T41 l0 x9_1).f1) x32_2).f0), .string ((rd_T46 ((rd_T41 l0 x9_1).f1) x32_2).f1), .int .i64 ((rd_T46 ((rd_T41 l0 x9_1).f1) x32_2).f2), .int .i64 ((rd_T46 ((rd_T41 l0 x9_1).f1) x32_2).f3)]] rfl ga_ ?_; (with_reducible refine (parser_atom.calls ((rd_T46 ((rd_T41 l0 x9_1).f1) x32_2).f0) ((rd_T46 ((rd_T41 l0 x9_1).f1) x32_2).f1) ((rd_T46 ((rd_T41 l0 x9_1).f1) x32_2).f2) ((rd_T46 ((rd_T41 l0 x9_1).f1) x32_2).f3) true _ A16.out).mono ?_); rintro e w23 ⟨rfl, hb⟩; refine ⟨_, rfl, ?_⟩; refine cut3_ (blk_below (g := gb189) (o := .cells #[.string ((rd_T41 l0 x9_1).f0), .slice (some ad191) ((rd_T41 l0 x9_1).f1).length c188_1, .bool true, .slice A188_3 ((rd_T41 l0 x9_1).f3).length c188_3, .int .i64 ((rd_T41 l0 x9_1).f4)] 41 (0, 0)) (far4_ (bk_ BK189.out) NB189_192.out) hb) (blk_below (g := gb192) (o := .cells #[.int .i64 ((rd_T46 ((rd_T41 l0 x9_1).f1) x32_2).f0), .string ((rd_T46 ((rd_T41 l0 x9_1).f1) x32_2).f1), .int .i64 ((rd_T46 ((rd_T41 l0 x9_1).f1) x32_2).f2), .int .i64 ((rd_T46 ((rd_T41 l0 x9_1).f1) x32_2).f3)] 46 (0, 0)) (put4_ (bk_ BK192.out)) hb) (below_step (bl2_ HB.out GE189.out GE192.out) hb) ?_; clear BK189 BK192 HB; intro BK189 BK192 HB; (try clear hb); (try clear hb2); (try clear hk); (try clear hi); obtain ⟨hcz24_0, hcz24_1, hcz24_2, hcz24_3, hfz24_0, hfz24_1, hfz24_2, hfz24_3⟩ := cq4_ BK192.out) | (go_at_call 36; (with_reducible refine (lexer_Valid.calls k2 ((rd_T46 ((rd_T41 l0 x9_1).f1) x32_2).f0) ((rd_T46 ((rd_T41 l0 x9_1).f1) x32_2).f1) ((rd_T46 ((rd_T41 l0 x9_1).f1) x32_2).f2) ((rd_T46 ((rd_T41 l0 x9_1).f1) x32_2).f3) true _ A18.out).mono ?_); rintro e w25 ⟨rfl, hb⟩; refine cut3_ (bb_ BK189.out hb) (bb_ BK192.out hb) (below_step (bl2_ HB.out GE189.out GE192.out) hb) ?_; clear BK189 BK192 HB; intro BK189 BK192 HB; (try clear hb); (try clear hb2); (try clear hk); (try clear hi)))
               go_roundg k2
               case measure => have := HK1.out; have := HK2.out; omega
               case rel => exact ⟨(wrap64 (x32_2 + 1)), sr_, H', ⟨by have := HK1.out; have := HK2.out; omega⟩, ⟨by exact bk_ BK189.out⟩, ⟨bl2_ HB.out GE189.out GE192.out⟩⟩
              ·
               replace c19 := Bool.eq_false_iff.mpr c19
               subst c19
               have H1 : (some false) = some r := by rw [if_neg (show ¬ (false = true) by decide)] at H; exact H
               clear H
               have H := H1
               clear H1
               obtain rfl := Option.some.inj H
               have p191 : 0 ≤ (x32_2 : Int) := dt_
               have q191 : x32_2 < (((rd_T41 l0 x9_1).f1).length : Int) := dt_
               obtain ⟨ad191, e191, hx191_0, hx191_1, hx191_2, hx191_3⟩ := at_T46 HR188_1.out x32_2 p191 q191
               cases e191
               replace hx191_0 := pw_cell_below HB.out hx191_0
               replace hx191_1 := pw_cell_below HB.out hx191_1
               replace hx191_2 := pw_cell_below HB.out hx191_2
               replace hx191_3 := pw_cell_below HB.out hx191_3
               replace p191 := eq_true p191
               replace q191 := eq_true q191
               go_wp2_with (first | ((with_reducible refine gate_dst (N := 6) rfl ?_); (try (refine gate_guard (by rfl) ?_; dsimp only)); refine bx_ (N := 6) (cs := #[.int .i64 0, .string (⟨#[]⟩ : ByteArray), .int .i64 0, .int .i64 0]) (t := 46) ?_; intro gb192 hg w26 hbox hb; refine cut7_ (bb_ BK189.out hb) (below_step (bl1_ HB.out GE189.out) hb) (hbox) (bz_ (w := w) hg (bl1_ HB.out GE189.out)) (bz_ (w := w) hg (bl1_ HB.out GE189.out)) (nl_ hg BK189.out) (ng_ hg BK189.out) ?_; clear BK189 HB; intro BK189 HB BK192 GW192 GE192 NB189_192 NB192_189; clear hb hbox hg; have hnb27 := NB192_189.out; have hnc27 := NB189_192.out; obtain ⟨hcz28_0, hcz28_1, hcz28_2, hcz28_3, hfz28_0, hfz28_1, hfz28_2, hfz28_3⟩ := cq4_ BK192.out) | ((with_reducible refine gate_callee (f := 85) rfl ?_); refine goesL_ (some 37) rfl rfl Tryd.func85 (by kernel_rfl) rfl #[.agg #[.int .i64 ((rd_T46 ((rd_T41 l0 x9_1).f1) x32_2).f0), .string ((rd_T46 ((rd_T41 l0 x9_1).f1) x32_2).f1), .int .i64 ((rd_T46 ((rd_T41 l0 x9_1).f1) x32_2).f2), .int .i64 ((rd_T46 ((rd_T41 l0 x9_1).f1) x32_2).f3)]] rfl ga_ ?_; (with_reducible refine (parser_atom.calls ((rd_T46 ((rd_T41 l0 x9_1).f1) x32_2).f0) ((rd_T46 ((rd_T41 l0 x9_1).f1) x32_2).f1) ((rd_T46 ((rd_T41 l0 x9_1).f1) x32_2).f2) ((rd_T46 ((rd_T41 l0 x9_1).f1) x32_2).f3) true _ A16.out).mono ?_); rintro e w29 ⟨rfl, hb⟩; refine ⟨_, rfl, ?_⟩; refine cut3_ (blk_below (g := gb189) (o := .cells #[.string ((rd_T41 l0 x9_1).f0), .slice (some ad191) ((rd_T41 l0 x9_1).f1).length c188_1, .bool true, .slice A188_3 ((rd_T41 l0 x9_1).f3).length c188_3, .int .i64 ((rd_T41 l0 x9_1).f4)] 41 (0, 0)) (far4_ (bk_ BK189.out) NB189_192.out) hb) (blk_below (g := gb192) (o := .cells #[.int .i64 ((rd_T46 ((rd_T41 l0 x9_1).f1) x32_2).f0), .string ((rd_T46 ((rd_T41 l0 x9_1).f1) x32_2).f1), .int .i64 ((rd_T46 ((rd_T41 l0 x9_1).f1) x32_2).f2), .int .i64 ((rd_T46 ((rd_T41 l0 x9_1).f1) x32_2).f3)] 46 (0, 0)) (put4_ (bk_ BK192.out)) hb) (below_step (bl2_ HB.out GE189.out GE192.out) hb) ?_; clear BK189 BK192 HB; intro BK189 BK192 HB; (try clear hb); (try clear hb2); (try clear hk); (try clear hi); obtain ⟨hcz30_0, hcz30_1, hcz30_2, hcz30_3, hfz30_0, hfz30_1, hfz30_2, hfz30_3⟩ := cq4_ BK192.out) | (go_at_call 36; (with_reducible refine (lexer_Valid.calls k2 ((rd_T46 ((rd_T41 l0 x9_1).f1) x32_2).f0) ((rd_T46 ((rd_T41 l0 x9_1).f1) x32_2).f1) ((rd_T46 ((rd_T41 l0 x9_1).f1) x32_2).f2) ((rd_T46 ((rd_T41 l0 x9_1).f1) x32_2).f3) false _ A18.out).mono ?_); rintro e w31 ⟨rfl, hb⟩; refine cut3_ (bb_ BK189.out hb) (bb_ BK192.out hb) (below_step (bl2_ HB.out GE189.out GE192.out) hb) ?_; clear BK189 BK192 HB; intro BK189 BK192 HB; (try clear hb); (try clear hb2); (try clear hk); (try clear hi)))
               go_ret
               exact ⟨er_, bl2_ HB.out GE189.out GE192.out⟩
             ·
              replace c17 := Bool.eq_false_iff.mpr c17
              subst c17
              have H1 : (some false) = some r := by rw [if_neg (show ¬ (false = true) by decide)] at H; exact H
              clear H
              have H := H1
              clear H1
              obtain rfl := Option.some.inj H
              have p191 : 0 ≤ (x32_2 : Int) := dt_
              have q191 : x32_2 < (((rd_T41 l0 x9_1).f1).length : Int) := dt_
              obtain ⟨ad191, e191, hx191_0, hx191_1, hx191_2, hx191_3⟩ := at_T46 HR188_1.out x32_2 p191 q191
              cases e191
              replace hx191_0 := pw_cell_below HB.out hx191_0
              replace hx191_1 := pw_cell_below HB.out hx191_1
              replace hx191_2 := pw_cell_below HB.out hx191_2
              replace hx191_3 := pw_cell_below HB.out hx191_3
              replace p191 := eq_true p191
              replace q191 := eq_true q191
              go_wp2_with (first | ((with_reducible refine gate_dst (N := 6) rfl ?_); (try (refine gate_guard (by rfl) ?_; dsimp only)); refine bx_ (N := 6) (cs := #[.int .i64 0, .string (⟨#[]⟩ : ByteArray), .int .i64 0, .int .i64 0]) (t := 46) ?_; intro gb192 hg w32 hbox hb; refine cut7_ (bb_ BK189.out hb) (below_step (bl1_ HB.out GE189.out) hb) (hbox) (bz_ (w := w) hg (bl1_ HB.out GE189.out)) (bz_ (w := w) hg (bl1_ HB.out GE189.out)) (nl_ hg BK189.out) (ng_ hg BK189.out) ?_; clear BK189 HB; intro BK189 HB BK192 GW192 GE192 NB189_192 NB192_189; clear hb hbox hg; have hnb33 := NB192_189.out; have hnc33 := NB189_192.out; obtain ⟨hcz34_0, hcz34_1, hcz34_2, hcz34_3, hfz34_0, hfz34_1, hfz34_2, hfz34_3⟩ := cq4_ BK192.out) | ((with_reducible refine gate_callee (f := 85) rfl ?_); refine goesL_ (some 37) rfl rfl Tryd.func85 (by kernel_rfl) rfl #[.agg #[.int .i64 ((rd_T46 ((rd_T41 l0 x9_1).f1) x32_2).f0), .string ((rd_T46 ((rd_T41 l0 x9_1).f1) x32_2).f1), .int .i64 ((rd_T46 ((rd_T41 l0 x9_1).f1) x32_2).f2), .int .i64 ((rd_T46 ((rd_T41 l0 x9_1).f1) x32_2).f3)]] rfl ga_ ?_; (with_reducible refine (parser_atom.calls ((rd_T46 ((rd_T41 l0 x9_1).f1) x32_2).f0) ((rd_T46 ((rd_T41 l0 x9_1).f1) x32_2).f1) ((rd_T46 ((rd_T41 l0 x9_1).f1) x32_2).f2) ((rd_T46 ((rd_T41 l0 x9_1).f1) x32_2).f3) false _ A16.out).mono ?_); rintro e w35 ⟨rfl, hb⟩; refine ⟨_, rfl, ?_⟩; refine cut3_ (blk_below (g := gb189) (o := .cells #[.string ((rd_T41 l0 x9_1).f0), .slice (some ad191) ((rd_T41 l0 x9_1).f1).length c188_1, .bool true, .slice A188_3 ((rd_T41 l0 x9_1).f3).length c188_3, .int .i64 ((rd_T41 l0 x9_1).f4)] 41 (0, 0)) (far4_ (bk_ BK189.out) NB189_192.out) hb) (blk_below (g := gb192) (o := .cells #[.int .i64 ((rd_T46 ((rd_T41 l0 x9_1).f1) x32_2).f0), .string ((rd_T46 ((rd_T41 l0 x9_1).f1) x32_2).f1), .int .i64 ((rd_T46 ((rd_T41 l0 x9_1).f1) x32_2).f2), .int .i64 ((rd_T46 ((rd_T41 l0 x9_1).f1) x32_2).f3)] 46 (0, 0)) (put4_ (bk_ BK192.out)) hb) (below_step (bl2_ HB.out GE189.out GE192.out) hb) ?_; clear BK189 BK192 HB; intro BK189 BK192 HB; (try clear hb); (try clear hb2); (try clear hk); (try clear hi)))
              go_ret
              exact ⟨er_, bl2_ HB.out GE189.out GE192.out⟩
            ·
             rw [if_neg c15] at H
             exact absurd H (by simp)
           ·
            rw [if_neg c14] at H
            exact absurd H (by simp)
          ·
           rw [if_neg c13] at H
           have c13b0 := decide_eq_false c13
           clear c13
           replace H := Option.bind_eq_some_iff.mp H
           obtain ⟨t195, A360, H⟩ := H
           (try dsimp only at H)
           have A36 := Aside0.mk A360
           clear A360
           by_cases c37 : t195 = true
           ·
            subst c37
            have H1 : (parser_formed.l0 k2 l0 (l0.length : Int) (wrap64 (x9_1 + 1))) = some r := by rw [if_pos rfl] at H; exact H
            clear H
            have H := H1
            clear H1
            have H' := Aside0.mk H
            clear H
            have hcz38_0 := cz_ (.string ((rd_T41 l0 x9_1).f0)) BK189.out 0
            have hcz38_1 := cz_ (.slice A188_1 ((rd_T41 l0 x9_1).f1).length c188_1) BK189.out 1
            have hcz38_2 := cz_ (.bool true) BK189.out 2
            have hcz38_3 := cz_ (.slice A188_3 ((rd_T41 l0 x9_1).f3).length c188_3) BK189.out 3
            have hcz38_4 := cz_ (.int .i64 ((rd_T41 l0 x9_1).f4)) BK189.out 4
            have hfz38_0 := blk_frozen BK189.out 0
            have hfz38_1 := blk_frozen BK189.out 1
            have hfz38_2 := blk_frozen BK189.out 2
            have hfz38_3 := blk_frozen BK189.out 3
            have hfz38_4 := blk_frozen BK189.out 4
            go_wp2_with (first | ((with_reducible refine gate_callee (f := 56) rfl ?_); refine goesL_ (some 47) rfl rfl Tryd.func56 (by kernel_rfl) rfl #[.slice A188_3 ((rd_T41 l0 x9_1).f3).length c188_3] rfl ga_ ?_; (with_reducible refine (ih k2 (by have := HK1.out; have := HK2.out; omega) _ _ ((rd_T41 l0 x9_1).f3) true _ ?side1 ?side2 A36.out).mono ?_); (case side1 => repeat (first | exact (Kd.C_below HR188_3.out HB.out) | (with_reducible refine Kd.C_alloc ?_ _) | (with_reducible refine Kd.C_drewN ?_ _) | (with_reducible refine Kd.C_drew ?_))); (case side2 => exact HC188_3.out); rintro e w39 ⟨rfl, hb⟩; refine ⟨_, rfl, ?_⟩; refine cut2_ (bb_ BK189.out hb) (below_step (bl1_ HB.out GE189.out) hb) ?_; clear BK189 HB; intro BK189 HB; (try clear hb); (try clear hb2); (try clear hk); (try clear hi)))
            go_roundg k2
            case measure => have := HK1.out; have := HK2.out; omega
            case rel => exact ⟨(wrap64 (x9_1 + 1)), sr_, H', ⟨by have := HK1.out; have := HK2.out; omega⟩, ⟨bl1_ HB.out GE189.out⟩⟩
           ·
            replace c37 := Bool.eq_false_iff.mpr c37
            subst c37
            have H1 : (some false) = some r := by rw [if_neg (show ¬ (false = true) by decide)] at H; exact H
            clear H
            have H := H1
            clear H1
            obtain rfl := Option.some.inj H
            have hcz40_0 := cz_ (.string ((rd_T41 l0 x9_1).f0)) BK189.out 0
            have hcz40_1 := cz_ (.slice A188_1 ((rd_T41 l0 x9_1).f1).length c188_1) BK189.out 1
            have hcz40_2 := cz_ (.bool true) BK189.out 2
            have hcz40_3 := cz_ (.slice A188_3 ((rd_T41 l0 x9_1).f3).length c188_3) BK189.out 3
            have hcz40_4 := cz_ (.int .i64 ((rd_T41 l0 x9_1).f4)) BK189.out 4
            have hfz40_0 := blk_frozen BK189.out 0
            have hfz40_1 := blk_frozen BK189.out 1
            have hfz40_2 := blk_frozen BK189.out 2
            have hfz40_3 := blk_frozen BK189.out 3
            have hfz40_4 := blk_frozen BK189.out 4
            go_wp2_with (first | ((with_reducible refine gate_callee (f := 56) rfl ?_); refine goesL_ (some 47) rfl rfl Tryd.func56 (by kernel_rfl) rfl #[.slice A188_3 ((rd_T41 l0 x9_1).f3).length c188_3] rfl ga_ ?_; (with_reducible refine (ih k2 (by have := HK1.out; have := HK2.out; omega) _ _ ((rd_T41 l0 x9_1).f3) false _ ?side1 ?side2 A36.out).mono ?_); (case side1 => repeat (first | exact (Kd.C_below HR188_3.out HB.out) | (with_reducible refine Kd.C_alloc ?_ _) | (with_reducible refine Kd.C_drewN ?_ _) | (with_reducible refine Kd.C_drew ?_))); (case side2 => exact HC188_3.out); rintro e w41 ⟨rfl, hb⟩; refine ⟨_, rfl, ?_⟩; refine cut2_ (bb_ BK189.out hb) (below_step (bl1_ HB.out GE189.out) hb) ?_; clear BK189 HB; intro BK189 HB; (try clear hb); (try clear hb2); (try clear hk); (try clear hi)))
            go_ret
            exact ⟨er_, bl1_ HB.out GE189.out⟩
       ·
        replace c8 := Bool.eq_false_iff.mpr c8
        subst c8
        have H1 : (if (((rd_T41 l0 x9_1).f3).length : Int) > 0 then (some false) else (parser_formed.l1 k1 l0 (l0.length : Int) x9_1 ((rd_T41 l0 x9_1).f1) (((rd_T41 l0 x9_1).f1).length : Int) 0 ((rd_T41 l0 x9_1).f0) ((rd_T41 l0 x9_1).f1) false ((rd_T41 l0 x9_1).f3) ((rd_T41 l0 x9_1).f4))) = some r := by rw [if_neg (show ¬ (false = true) by decide)] at H; exact H
        clear H
        have H := H1
        clear H1
        by_cases c42 : (((rd_T41 l0 x9_1).f3).length : Int) > 0
        ·
         rw [if_pos c42] at H
         have c42b0 := decide_eq_true c42
         have c42b1 : decide (0 < ((rd_T41 l0 x9_1).f3).length) = true := decide_eq_true (by omega)
         clear c42
         obtain rfl := Option.some.inj H
         have p188 : 0 ≤ (x9_1 : Int) := dt_
         have q188 : x9_1 < (l0.length : Int) := dt_
         obtain ⟨ad188, A188_1, c188_1, A188_3, c188_3, e188, hx188_0, hx188_1, hx188_2, hx188_3, hx188_4, hl188_1, hi188_1, hl188_3, hi188_3⟩ := at_T41 HR0.out x9_1 p188 q188
         (try rw [← Nbq7.out] at hx188_2)
         cases e188
         replace hx188_0 := pw_cell_below HB.out hx188_0
         replace hx188_1 := pw_cell_below HB.out hx188_1
         replace hx188_2 := pw_cell_below HB.out hx188_2
         replace hx188_3 := pw_cell_below HB.out hx188_3
         replace hx188_4 := pw_cell_below HB.out hx188_4
         have HR188_1 := Aside0.mk hi188_1
         have HC188_1 := Aside0.mk hl188_1
         clear hi188_1 hl188_1
         have HR188_3 := Aside0.mk hi188_3
         have HC188_3 := Aside0.mk hl188_3
         clear hi188_3 hl188_3
         replace p188 := eq_true p188
         replace q188 := eq_true q188
         go_wp2_with (first | ((with_reducible refine gate_dst (N := 4) rfl ?_); (try (refine gate_guard (by rfl) ?_; dsimp only)); refine bx_ (N := 4) (cs := #[.string (⟨#[]⟩ : ByteArray), .slice none 0 0, .bool false, .slice none 0 0, .int .i64 0]) (t := 41) ?_; intro gb189 hg w43 hbox hb; refine cut4_ (below_step (bl_ HB.out) hb) (hbox) (bz_ (w := w) hg (bl_ HB.out)) (bz_ (w := w) hg (bl_ HB.out)) ?_; clear HB; intro HB BK189 GW189 GE189; clear hb hbox hg; obtain ⟨hcz44_0, hcz44_1, hcz44_2, hcz44_3, hcz44_4, hfz44_0, hfz44_1, hfz44_2, hfz44_3, hfz44_4⟩ := cq5_ BK189.out) | ((with_reducible refine gate_callee (f := 36) rfl ?_); refine goesL_ (some 16) rfl rfl Tryd.func36 (by kernel_rfl) rfl #[.agg #[.int .i64 1, .string ((rd_T41 l0 x9_1).f0), .int .i64 0, .int .i64 0]] rfl ga_ ?_; (with_reducible refine (lexer_Valid.calls k1 1 ((rd_T41 l0 x9_1).f0) 0 0 true _ A5.out).mono ?_); rintro e w45 ⟨rfl, hb⟩; refine ⟨_, rfl, ?_⟩; refine cut2_ (blk_below (g := gb189) (o := .cells #[.string ((rd_T41 l0 x9_1).f0), .slice A188_1 ((rd_T41 l0 x9_1).f1).length c188_1, .bool false, .slice A188_3 ((rd_T41 l0 x9_1).f3).length c188_3, .int .i64 ((rd_T41 l0 x9_1).f4)] 41 (0, 0)) (put5_ (bk_ BK189.out)) hb) (below_step (bl1_ HB.out GE189.out) hb) ?_; clear BK189 HB; intro BK189 HB; (try clear hb); (try clear hb2); (try clear hk); (try clear hi); obtain ⟨hcz46_0, hcz46_1, hcz46_2, hcz46_3, hcz46_4, hfz46_0, hfz46_1, hfz46_2, hfz46_3, hfz46_4⟩ := cq5_ BK189.out))
         go_ret
         exact ⟨er_, bl1_ HB.out GE189.out⟩
        ·
         rw [if_neg c42] at H
         have c42b0 := decide_eq_false c42
         have c42b1 : decide (0 < ((rd_T41 l0 x9_1).f3).length) = false := decide_eq_false (by omega)
         clear c42
         have H' := Aside0.mk H
         clear H
         have p188 : 0 ≤ (x9_1 : Int) := dt_
         have q188 : x9_1 < (l0.length : Int) := dt_
         obtain ⟨ad188, A188_1, c188_1, A188_3, c188_3, e188, hx188_0, hx188_1, hx188_2, hx188_3, hx188_4, hl188_1, hi188_1, hl188_3, hi188_3⟩ := at_T41 HR0.out x9_1 p188 q188
         (try rw [← Nbq7.out] at hx188_2)
         cases e188
         replace hx188_0 := pw_cell_below HB.out hx188_0
         replace hx188_1 := pw_cell_below HB.out hx188_1
         replace hx188_2 := pw_cell_below HB.out hx188_2
         replace hx188_3 := pw_cell_below HB.out hx188_3
         replace hx188_4 := pw_cell_below HB.out hx188_4
         have HR188_1 := Aside0.mk hi188_1
         have HC188_1 := Aside0.mk hl188_1
         clear hi188_1 hl188_1
         have HR188_3 := Aside0.mk hi188_3
         have HC188_3 := Aside0.mk hl188_3
         clear hi188_3 hl188_3
         replace p188 := eq_true p188
         replace q188 := eq_true q188
         go_wp2_with (first | ((with_reducible refine gate_dst (N := 4) rfl ?_); (try (refine gate_guard (by rfl) ?_; dsimp only)); refine bx_ (N := 4) (cs := #[.string (⟨#[]⟩ : ByteArray), .slice none 0 0, .bool false, .slice none 0 0, .int .i64 0]) (t := 41) ?_; intro gb189 hg w47 hbox hb; refine cut4_ (below_step (bl_ HB.out) hb) (hbox) (bz_ (w := w) hg (bl_ HB.out)) (bz_ (w := w) hg (bl_ HB.out)) ?_; clear HB; intro HB BK189 GW189 GE189; clear hb hbox hg; obtain ⟨hcz48_0, hcz48_1, hcz48_2, hcz48_3, hcz48_4, hfz48_0, hfz48_1, hfz48_2, hfz48_3, hfz48_4⟩ := cq5_ BK189.out) | ((with_reducible refine gate_callee (f := 36) rfl ?_); refine goesL_ (some 16) rfl rfl Tryd.func36 (by kernel_rfl) rfl #[.agg #[.int .i64 1, .string ((rd_T41 l0 x9_1).f0), .int .i64 0, .int .i64 0]] rfl ga_ ?_; (with_reducible refine (lexer_Valid.calls k1 1 ((rd_T41 l0 x9_1).f0) 0 0 true _ A5.out).mono ?_); rintro e w49 ⟨rfl, hb⟩; refine ⟨_, rfl, ?_⟩; refine cut2_ (blk_below (g := gb189) (o := .cells #[.string ((rd_T41 l0 x9_1).f0), .slice A188_1 ((rd_T41 l0 x9_1).f1).length c188_1, .bool false, .slice A188_3 ((rd_T41 l0 x9_1).f3).length c188_3, .int .i64 ((rd_T41 l0 x9_1).f4)] 41 (0, 0)) (put5_ (bk_ BK189.out)) hb) (below_step (bl1_ HB.out GE189.out) hb) ?_; clear BK189 HB; intro BK189 HB; (try clear hb); (try clear hb2); (try clear hk); (try clear hi); obtain ⟨hcz50_0, hcz50_1, hcz50_2, hcz50_3, hcz50_4, hfz50_0, hfz50_1, hfz50_2, hfz50_3, hfz50_4⟩ := cq5_ BK189.out))
         go_loopg [32] k1 (fun kq v32 w' => ∃ (x32_2 : Int), v32 = .int .i64 x32_2 ∧ Aside0 (parser_formed.l1 kq l0 (l0.length : Int) x9_1 ((rd_T41 l0 x9_1).f1) (((rd_T41 l0 x9_1).f1).length : Int) x32_2 ((rd_T41 l0 x9_1).f0) ((rd_T41 l0 x9_1).f1) false ((rd_T41 l0 x9_1).f3) ((rd_T41 l0 x9_1).f4) = some r) ∧ Aside0 (kq ≤ k1) ∧ Aside0 (w'.heap[gb189]? = some (.cells #[.string ((rd_T41 l0 x9_1).f0), (.slice A188_1 ((rd_T41 l0 x9_1).f1).length c188_1), .bool false, (.slice A188_3 ((rd_T41 l0 x9_1).f3).length c188_3), .int .i64 ((rd_T41 l0 x9_1).f4)] 41 (0, 0))) ∧ Aside0 (Below w.heap.size w w'))
         case atStart => exact ⟨(0), sr_, H', ⟨Nat.le_refl _⟩, ⟨by exact bk_ BK189.out⟩, ⟨bl1_ HB.out GE189.out⟩⟩
         case round =>
          clear H'
          try clear c1
          try clear p1
          try clear q1
          try clear hx1
          try clear c2
          try clear c2b0
          try clear p2
          try clear c3
          try clear c3b0
          try clear c4
          try clear c4b0
          try clear c5
          try clear c6
          try clear p6
          try clear q7
          try clear c8
          try clear c13
          try clear c13b0
          try clear c14
          try clear c14b0
          try clear c15
          try clear c15b0
          try clear c17
          try clear c18
          try clear p18
          try clear q18
          try clear hx18
          try clear c19
          try clear p19
          try clear q19
          try clear hx19
          try clear c21
          try clear c27
          try clear c33
          try clear c36
          try clear c37
          try clear c42
          try clear c42b0
          try clear c42b1
          try clear hcz10_0
          try clear hcz10_1
          try clear hcz10_2
          try clear hcz10_3
          try clear hcz10_4
          try clear hcz12_0
          try clear hcz12_1
          try clear hcz12_2
          try clear hcz12_3
          try clear hcz12_4
          try clear hcz22_0
          try clear hcz22_1
          try clear hcz22_2
          try clear hcz22_3
          try clear hcz24_0
          try clear hcz24_1
          try clear hcz24_2
          try clear hcz24_3
          try clear hcz28_0
          try clear hcz28_1
          try clear hcz28_2
          try clear hcz28_3
          try clear hcz30_0
          try clear hcz30_1
          try clear hcz30_2
          try clear hcz30_3
          try clear hcz34_0
          try clear hcz34_1
          try clear hcz34_2
          try clear hcz34_3
          try clear hcz38_0
          try clear hcz38_1
          try clear hcz38_2
          try clear hcz38_3
          try clear hcz38_4
          try clear hcz40_0
          try clear hcz40_1
          try clear hcz40_2
          try clear hcz40_3
          try clear hcz40_4
          try clear hcz44_0
          try clear hcz44_1
          try clear hcz44_2
          try clear hcz44_3
          try clear hcz44_4
          try clear hcz46_0
          try clear hcz46_1
          try clear hcz46_2
          try clear hcz46_3
          try clear hcz46_4
          try clear hcz48_0
          try clear hcz48_1
          try clear hcz48_2
          try clear hcz48_3
          try clear hcz48_4
          try clear hcz50_0
          try clear hcz50_1
          try clear hcz50_2
          try clear hcz50_3
          try clear hcz50_4
          try clear hfz10_0
          try clear hfz10_1
          try clear hfz10_2
          try clear hfz10_3
          try clear hfz10_4
          try clear hfz12_0
          try clear hfz12_1
          try clear hfz12_2
          try clear hfz12_3
          try clear hfz12_4
          try clear hfz22_0
          try clear hfz22_1
          try clear hfz22_2
          try clear hfz22_3
          try clear hfz24_0
          try clear hfz24_1
          try clear hfz24_2
          try clear hfz24_3
          try clear hfz28_0
          try clear hfz28_1
          try clear hfz28_2
          try clear hfz28_3
          try clear hfz30_0
          try clear hfz30_1
          try clear hfz30_2
          try clear hfz30_3
          try clear hfz34_0
          try clear hfz34_1
          try clear hfz34_2
          try clear hfz34_3
          try clear hfz38_0
          try clear hfz38_1
          try clear hfz38_2
          try clear hfz38_3
          try clear hfz38_4
          try clear hfz40_0
          try clear hfz40_1
          try clear hfz40_2
          try clear hfz40_3
          try clear hfz40_4
          try clear hfz44_0
          try clear hfz44_1
          try clear hfz44_2
          try clear hfz44_3
          try clear hfz44_4
          try clear hfz46_0
          try clear hfz46_1
          try clear hfz46_2
          try clear hfz46_3
          try clear hfz46_4
          try clear hfz48_0
          try clear hfz48_1
          try clear hfz48_2
          try clear hfz48_3
          try clear hfz48_4
          try clear hfz50_0
          try clear hfz50_1
          try clear hfz50_2
          try clear hfz50_3
          try clear hfz50_4
          try clear hx188_0
          try clear hx188_1
          try clear hx188_2
          try clear hx188_3
          try clear hx188_4
          try clear hx191_0
          try clear hx191_1
          try clear hx191_2
          try clear hx191_3
          try clear p1
          try clear p188
          try clear p191
          try clear p2
          try clear q1
          try clear q188
          try clear q191
          try clear q7
          obtain ⟨x32_2, rfl, HA, HK2, BK189, HB⟩ := hrel
          cases gk with
          | zero => exact absurd HA.out (by simp [parser_formed.l1])
          | succ k2 =>
           have H := HA.out
           clear HA
           simp only [parser_formed.l1] at H
           by_cases c51 : x32_2 < (((rd_T41 l0 x9_1).f1).length : Int)
           ·
            rw [if_pos c51] at H
            have c51b0 := decide_eq_true c51
            clear c51
            by_cases c52 : 0 ≤ x32_2
            ·
             rw [if_pos c52] at H
             have c52b0 := decide_eq_true c52
             clear c52
             by_cases c53 : x32_2 < (((rd_T41 l0 x9_1).f1).length : Int)
             ·
              rw [if_pos c53] at H
              have c53b0 := decide_eq_true c53
              clear c53
              replace H := Option.bind_eq_some_iff.mp H
              obtain ⟨t193, A540, H⟩ := H
              (try dsimp only at H)
              have A54 := Aside0.mk A540
              clear A540
              by_cases c55 : t193 = true
              ·
               subst c55
               have H1 : ((lexer_Valid.f k2 ((rd_T46 ((rd_T41 l0 x9_1).f1) x32_2).f0) ((rd_T46 ((rd_T41 l0 x9_1).f1) x32_2).f1) ((rd_T46 ((rd_T41 l0 x9_1).f1) x32_2).f2) ((rd_T46 ((rd_T41 l0 x9_1).f1) x32_2).f3)).bind fun t194 => (if t194 = true then (parser_formed.l1 k2 l0 (l0.length : Int) x9_1 ((rd_T41 l0 x9_1).f1) (((rd_T41 l0 x9_1).f1).length : Int) (wrap64 (x32_2 + 1)) ((rd_T41 l0 x9_1).f0) ((rd_T41 l0 x9_1).f1) false ((rd_T41 l0 x9_1).f3) ((rd_T41 l0 x9_1).f4)) else (some false))) = some r := by rw [if_pos rfl] at H; exact H
               clear H
               have H := H1
               clear H1
               replace H := Option.bind_eq_some_iff.mp H
               obtain ⟨t194, A560, H⟩ := H
               (try dsimp only at H)
               have A56 := Aside0.mk A560
               clear A560
               by_cases c57 : t194 = true
               ·
                subst c57
                have H1 : (parser_formed.l1 k2 l0 (l0.length : Int) x9_1 ((rd_T41 l0 x9_1).f1) (((rd_T41 l0 x9_1).f1).length : Int) (wrap64 (x32_2 + 1)) ((rd_T41 l0 x9_1).f0) ((rd_T41 l0 x9_1).f1) false ((rd_T41 l0 x9_1).f3) ((rd_T41 l0 x9_1).f4)) = some r := by rw [if_pos rfl] at H; exact H
                clear H
                have H := H1
                clear H1
                have H' := Aside0.mk H
                clear H
                have p191 : 0 ≤ (x32_2 : Int) := dt_
                have q191 : x32_2 < (((rd_T41 l0 x9_1).f1).length : Int) := dt_
                obtain ⟨ad191, e191, hx191_0, hx191_1, hx191_2, hx191_3⟩ := at_T46 HR188_1.out x32_2 p191 q191
                cases e191
                replace hx191_0 := pw_cell_below HB.out hx191_0
                replace hx191_1 := pw_cell_below HB.out hx191_1
                replace hx191_2 := pw_cell_below HB.out hx191_2
                replace hx191_3 := pw_cell_below HB.out hx191_3
                replace p191 := eq_true p191
                replace q191 := eq_true q191
                go_wp2_with (first | ((with_reducible refine gate_dst (N := 6) rfl ?_); (try (refine gate_guard (by rfl) ?_; dsimp only)); refine bx_ (N := 6) (cs := #[.int .i64 0, .string (⟨#[]⟩ : ByteArray), .int .i64 0, .int .i64 0]) (t := 46) ?_; intro gb192 hg w58 hbox hb; refine cut7_ (bb_ BK189.out hb) (below_step (bl1_ HB.out GE189.out) hb) (hbox) (bz_ (w := w) hg (bl1_ HB.out GE189.out)) (bz_ (w := w) hg (bl1_ HB.out GE189.out)) (nl_ hg BK189.out) (ng_ hg BK189.out) ?_; clear BK189 HB; intro BK189 HB BK192 GW192 GE192 NB189_192 NB192_189; clear hb hbox hg; have hnb59 := NB192_189.out; have hnc59 := NB189_192.out; obtain ⟨hcz60_0, hcz60_1, hcz60_2, hcz60_3, hfz60_0, hfz60_1, hfz60_2, hfz60_3⟩ := cq4_ BK192.out) | ((with_reducible refine gate_callee (f := 85) rfl ?_); refine goesL_ (some 37) rfl rfl Tryd.func85 (by kernel_rfl) rfl #[.agg #[.int .i64 ((rd_T46 ((rd_T41 l0 x9_1).f1) x32_2).f0), .string ((rd_T46 ((rd_T41 l0 x9_1).f1) x32_2).f1), .int .i64 ((rd_T46 ((rd_T41 l0 x9_1).f1) x32_2).f2), .int .i64 ((rd_T46 ((rd_T41 l0 x9_1).f1) x32_2).f3)]] rfl ga_ ?_; (with_reducible refine (parser_atom.calls ((rd_T46 ((rd_T41 l0 x9_1).f1) x32_2).f0) ((rd_T46 ((rd_T41 l0 x9_1).f1) x32_2).f1) ((rd_T46 ((rd_T41 l0 x9_1).f1) x32_2).f2) ((rd_T46 ((rd_T41 l0 x9_1).f1) x32_2).f3) true _ A54.out).mono ?_); rintro e w61 ⟨rfl, hb⟩; refine ⟨_, rfl, ?_⟩; refine cut3_ (blk_below (g := gb189) (o := .cells #[.string ((rd_T41 l0 x9_1).f0), .slice (some ad191) ((rd_T41 l0 x9_1).f1).length c188_1, .bool false, .slice A188_3 ((rd_T41 l0 x9_1).f3).length c188_3, .int .i64 ((rd_T41 l0 x9_1).f4)] 41 (0, 0)) (far4_ (bk_ BK189.out) NB189_192.out) hb) (blk_below (g := gb192) (o := .cells #[.int .i64 ((rd_T46 ((rd_T41 l0 x9_1).f1) x32_2).f0), .string ((rd_T46 ((rd_T41 l0 x9_1).f1) x32_2).f1), .int .i64 ((rd_T46 ((rd_T41 l0 x9_1).f1) x32_2).f2), .int .i64 ((rd_T46 ((rd_T41 l0 x9_1).f1) x32_2).f3)] 46 (0, 0)) (put4_ (bk_ BK192.out)) hb) (below_step (bl2_ HB.out GE189.out GE192.out) hb) ?_; clear BK189 BK192 HB; intro BK189 BK192 HB; (try clear hb); (try clear hb2); (try clear hk); (try clear hi); obtain ⟨hcz62_0, hcz62_1, hcz62_2, hcz62_3, hfz62_0, hfz62_1, hfz62_2, hfz62_3⟩ := cq4_ BK192.out) | (go_at_call 36; (with_reducible refine (lexer_Valid.calls k2 ((rd_T46 ((rd_T41 l0 x9_1).f1) x32_2).f0) ((rd_T46 ((rd_T41 l0 x9_1).f1) x32_2).f1) ((rd_T46 ((rd_T41 l0 x9_1).f1) x32_2).f2) ((rd_T46 ((rd_T41 l0 x9_1).f1) x32_2).f3) true _ A56.out).mono ?_); rintro e w63 ⟨rfl, hb⟩; refine cut3_ (bb_ BK189.out hb) (bb_ BK192.out hb) (below_step (bl2_ HB.out GE189.out GE192.out) hb) ?_; clear BK189 BK192 HB; intro BK189 BK192 HB; (try clear hb); (try clear hb2); (try clear hk); (try clear hi)))
                go_roundg k2
                case measure => have := HK1.out; have := HK2.out; omega
                case rel => exact ⟨(wrap64 (x32_2 + 1)), sr_, H', ⟨by have := HK1.out; have := HK2.out; omega⟩, ⟨by exact bk_ BK189.out⟩, ⟨bl2_ HB.out GE189.out GE192.out⟩⟩
               ·
                replace c57 := Bool.eq_false_iff.mpr c57
                subst c57
                have H1 : (some false) = some r := by rw [if_neg (show ¬ (false = true) by decide)] at H; exact H
                clear H
                have H := H1
                clear H1
                obtain rfl := Option.some.inj H
                have p191 : 0 ≤ (x32_2 : Int) := dt_
                have q191 : x32_2 < (((rd_T41 l0 x9_1).f1).length : Int) := dt_
                obtain ⟨ad191, e191, hx191_0, hx191_1, hx191_2, hx191_3⟩ := at_T46 HR188_1.out x32_2 p191 q191
                cases e191
                replace hx191_0 := pw_cell_below HB.out hx191_0
                replace hx191_1 := pw_cell_below HB.out hx191_1
                replace hx191_2 := pw_cell_below HB.out hx191_2
                replace hx191_3 := pw_cell_below HB.out hx191_3
                replace p191 := eq_true p191
                replace q191 := eq_true q191
                go_wp2_with (first | ((with_reducible refine gate_dst (N := 6) rfl ?_); (try (refine gate_guard (by rfl) ?_; dsimp only)); refine bx_ (N := 6) (cs := #[.int .i64 0, .string (⟨#[]⟩ : ByteArray), .int .i64 0, .int .i64 0]) (t := 46) ?_; intro gb192 hg w64 hbox hb; refine cut7_ (bb_ BK189.out hb) (below_step (bl1_ HB.out GE189.out) hb) (hbox) (bz_ (w := w) hg (bl1_ HB.out GE189.out)) (bz_ (w := w) hg (bl1_ HB.out GE189.out)) (nl_ hg BK189.out) (ng_ hg BK189.out) ?_; clear BK189 HB; intro BK189 HB BK192 GW192 GE192 NB189_192 NB192_189; clear hb hbox hg; have hnb65 := NB192_189.out; have hnc65 := NB189_192.out; obtain ⟨hcz66_0, hcz66_1, hcz66_2, hcz66_3, hfz66_0, hfz66_1, hfz66_2, hfz66_3⟩ := cq4_ BK192.out) | ((with_reducible refine gate_callee (f := 85) rfl ?_); refine goesL_ (some 37) rfl rfl Tryd.func85 (by kernel_rfl) rfl #[.agg #[.int .i64 ((rd_T46 ((rd_T41 l0 x9_1).f1) x32_2).f0), .string ((rd_T46 ((rd_T41 l0 x9_1).f1) x32_2).f1), .int .i64 ((rd_T46 ((rd_T41 l0 x9_1).f1) x32_2).f2), .int .i64 ((rd_T46 ((rd_T41 l0 x9_1).f1) x32_2).f3)]] rfl ga_ ?_; (with_reducible refine (parser_atom.calls ((rd_T46 ((rd_T41 l0 x9_1).f1) x32_2).f0) ((rd_T46 ((rd_T41 l0 x9_1).f1) x32_2).f1) ((rd_T46 ((rd_T41 l0 x9_1).f1) x32_2).f2) ((rd_T46 ((rd_T41 l0 x9_1).f1) x32_2).f3) true _ A54.out).mono ?_); rintro e w67 ⟨rfl, hb⟩; refine ⟨_, rfl, ?_⟩; refine cut3_ (blk_below (g := gb189) (o := .cells #[.string ((rd_T41 l0 x9_1).f0), .slice (some ad191) ((rd_T41 l0 x9_1).f1).length c188_1, .bool false, .slice A188_3 ((rd_T41 l0 x9_1).f3).length c188_3, .int .i64 ((rd_T41 l0 x9_1).f4)] 41 (0, 0)) (far4_ (bk_ BK189.out) NB189_192.out) hb) (blk_below (g := gb192) (o := .cells #[.int .i64 ((rd_T46 ((rd_T41 l0 x9_1).f1) x32_2).f0), .string ((rd_T46 ((rd_T41 l0 x9_1).f1) x32_2).f1), .int .i64 ((rd_T46 ((rd_T41 l0 x9_1).f1) x32_2).f2), .int .i64 ((rd_T46 ((rd_T41 l0 x9_1).f1) x32_2).f3)] 46 (0, 0)) (put4_ (bk_ BK192.out)) hb) (below_step (bl2_ HB.out GE189.out GE192.out) hb) ?_; clear BK189 BK192 HB; intro BK189 BK192 HB; (try clear hb); (try clear hb2); (try clear hk); (try clear hi); obtain ⟨hcz68_0, hcz68_1, hcz68_2, hcz68_3, hfz68_0, hfz68_1, hfz68_2, hfz68_3⟩ := cq4_ BK192.out) | (go_at_call 36; (with_reducible refine (lexer_Valid.calls k2 ((rd_T46 ((rd_T41 l0 x9_1).f1) x32_2).f0) ((rd_T46 ((rd_T41 l0 x9_1).f1) x32_2).f1) ((rd_T46 ((rd_T41 l0 x9_1).f1) x32_2).f2) ((rd_T46 ((rd_T41 l0 x9_1).f1) x32_2).f3) false _ A56.out).mono ?_); rintro e w69 ⟨rfl, hb⟩; refine cut3_ (bb_ BK189.out hb) (bb_ BK192.out hb) (below_step (bl2_ HB.out GE189.out GE192.out) hb) ?_; clear BK189 BK192 HB; intro BK189 BK192 HB; (try clear hb); (try clear hb2); (try clear hk); (try clear hi)))
                go_ret
                exact ⟨er_, bl2_ HB.out GE189.out GE192.out⟩
              ·
               replace c55 := Bool.eq_false_iff.mpr c55
               subst c55
               have H1 : (some false) = some r := by rw [if_neg (show ¬ (false = true) by decide)] at H; exact H
               clear H
               have H := H1
               clear H1
               obtain rfl := Option.some.inj H
               have p191 : 0 ≤ (x32_2 : Int) := dt_
               have q191 : x32_2 < (((rd_T41 l0 x9_1).f1).length : Int) := dt_
               obtain ⟨ad191, e191, hx191_0, hx191_1, hx191_2, hx191_3⟩ := at_T46 HR188_1.out x32_2 p191 q191
               cases e191
               replace hx191_0 := pw_cell_below HB.out hx191_0
               replace hx191_1 := pw_cell_below HB.out hx191_1
               replace hx191_2 := pw_cell_below HB.out hx191_2
               replace hx191_3 := pw_cell_below HB.out hx191_3
               replace p191 := eq_true p191
               replace q191 := eq_true q191
               go_wp2_with (first | ((with_reducible refine gate_dst (N := 6) rfl ?_); (try (refine gate_guard (by rfl) ?_; dsimp only)); refine bx_ (N := 6) (cs := #[.int .i64 0, .string (⟨#[]⟩ : ByteArray), .int .i64 0, .int .i64 0]) (t := 46) ?_; intro gb192 hg w70 hbox hb; refine cut7_ (bb_ BK189.out hb) (below_step (bl1_ HB.out GE189.out) hb) (hbox) (bz_ (w := w) hg (bl1_ HB.out GE189.out)) (bz_ (w := w) hg (bl1_ HB.out GE189.out)) (nl_ hg BK189.out) (ng_ hg BK189.out) ?_; clear BK189 HB; intro BK189 HB BK192 GW192 GE192 NB189_192 NB192_189; clear hb hbox hg; have hnb71 := NB192_189.out; have hnc71 := NB189_192.out; obtain ⟨hcz72_0, hcz72_1, hcz72_2, hcz72_3, hfz72_0, hfz72_1, hfz72_2, hfz72_3⟩ := cq4_ BK192.out) | ((with_reducible refine gate_callee (f := 85) rfl ?_); refine goesL_ (some 37) rfl rfl Tryd.func85 (by kernel_rfl) rfl #[.agg #[.int .i64 ((rd_T46 ((rd_T41 l0 x9_1).f1) x32_2).f0), .string ((rd_T46 ((rd_T41 l0 x9_1).f1) x32_2).f1), .int .i64 ((rd_T46 ((rd_T41 l0 x9_1).f1) x32_2).f2), .int .i64 ((rd_T46 ((rd_T41 l0 x9_1).f1) x32_2).f3)]] rfl ga_ ?_; (with_reducible refine (parser_atom.calls ((rd_T46 ((rd_T41 l0 x9_1).f1) x32_2).f0) ((rd_T46 ((rd_T41 l0 x9_1).f1) x32_2).f1) ((rd_T46 ((rd_T41 l0 x9_1).f1) x32_2).f2) ((rd_T46 ((rd_T41 l0 x9_1).f1) x32_2).f3) false _ A54.out).mono ?_); rintro e w73 ⟨rfl, hb⟩; refine ⟨_, rfl, ?_⟩; refine cut3_ (blk_below (g := gb189) (o := .cells #[.string ((rd_T41 l0 x9_1).f0), .slice (some ad191) ((rd_T41 l0 x9_1).f1).length c188_1, .bool false, .slice A188_3 ((rd_T41 l0 x9_1).f3).length c188_3, .int .i64 ((rd_T41 l0 x9_1).f4)] 41 (0, 0)) (far4_ (bk_ BK189.out) NB189_192.out) hb) (blk_below (g := gb192) (o := .cells #[.int .i64 ((rd_T46 ((rd_T41 l0 x9_1).f1) x32_2).f0), .string ((rd_T46 ((rd_T41 l0 x9_1).f1) x32_2).f1), .int .i64 ((rd_T46 ((rd_T41 l0 x9_1).f1) x32_2).f2), .int .i64 ((rd_T46 ((rd_T41 l0 x9_1).f1) x32_2).f3)] 46 (0, 0)) (put4_ (bk_ BK192.out)) hb) (below_step (bl2_ HB.out GE189.out GE192.out) hb) ?_; clear BK189 BK192 HB; intro BK189 BK192 HB; (try clear hb); (try clear hb2); (try clear hk); (try clear hi)))
               go_ret
               exact ⟨er_, bl2_ HB.out GE189.out GE192.out⟩
             ·
              rw [if_neg c53] at H
              exact absurd H (by simp)
            ·
             rw [if_neg c52] at H
             exact absurd H (by simp)
           ·
            rw [if_neg c51] at H
            have c51b0 := decide_eq_false c51
            clear c51
            replace H := Option.bind_eq_some_iff.mp H
            obtain ⟨t195, A740, H⟩ := H
            (try dsimp only at H)
            have A74 := Aside0.mk A740
            clear A740
            by_cases c75 : t195 = true
            ·
             subst c75
             have H1 : (parser_formed.l0 k2 l0 (l0.length : Int) (wrap64 (x9_1 + 1))) = some r := by rw [if_pos rfl] at H; exact H
             clear H
             have H := H1
             clear H1
             have H' := Aside0.mk H
             clear H
             have hcz76_0 := cz_ (.string ((rd_T41 l0 x9_1).f0)) BK189.out 0
             have hcz76_1 := cz_ (.slice A188_1 ((rd_T41 l0 x9_1).f1).length c188_1) BK189.out 1
             have hcz76_2 := cz_ (.bool false) BK189.out 2
             have hcz76_3 := cz_ (.slice A188_3 ((rd_T41 l0 x9_1).f3).length c188_3) BK189.out 3
             have hcz76_4 := cz_ (.int .i64 ((rd_T41 l0 x9_1).f4)) BK189.out 4
             have hfz76_0 := blk_frozen BK189.out 0
             have hfz76_1 := blk_frozen BK189.out 1
             have hfz76_2 := blk_frozen BK189.out 2
             have hfz76_3 := blk_frozen BK189.out 3
             have hfz76_4 := blk_frozen BK189.out 4
             go_wp2_with (first | ((with_reducible refine gate_callee (f := 56) rfl ?_); refine goesL_ (some 47) rfl rfl Tryd.func56 (by kernel_rfl) rfl #[.slice A188_3 ((rd_T41 l0 x9_1).f3).length c188_3] rfl ga_ ?_; (with_reducible refine (ih k2 (by have := HK1.out; have := HK2.out; omega) _ _ ((rd_T41 l0 x9_1).f3) true _ ?side1 ?side2 A74.out).mono ?_); (case side1 => repeat (first | exact (Kd.C_below HR188_3.out HB.out) | (with_reducible refine Kd.C_alloc ?_ _) | (with_reducible refine Kd.C_drewN ?_ _) | (with_reducible refine Kd.C_drew ?_))); (case side2 => exact HC188_3.out); rintro e w77 ⟨rfl, hb⟩; refine ⟨_, rfl, ?_⟩; refine cut2_ (bb_ BK189.out hb) (below_step (bl1_ HB.out GE189.out) hb) ?_; clear BK189 HB; intro BK189 HB; (try clear hb); (try clear hb2); (try clear hk); (try clear hi)))
             go_roundg k2
             case measure => have := HK1.out; have := HK2.out; omega
             case rel => exact ⟨(wrap64 (x9_1 + 1)), sr_, H', ⟨by have := HK1.out; have := HK2.out; omega⟩, ⟨bl1_ HB.out GE189.out⟩⟩
            ·
             replace c75 := Bool.eq_false_iff.mpr c75
             subst c75
             have H1 : (some false) = some r := by rw [if_neg (show ¬ (false = true) by decide)] at H; exact H
             clear H
             have H := H1
             clear H1
             obtain rfl := Option.some.inj H
             have hcz78_0 := cz_ (.string ((rd_T41 l0 x9_1).f0)) BK189.out 0
             have hcz78_1 := cz_ (.slice A188_1 ((rd_T41 l0 x9_1).f1).length c188_1) BK189.out 1
             have hcz78_2 := cz_ (.bool false) BK189.out 2
             have hcz78_3 := cz_ (.slice A188_3 ((rd_T41 l0 x9_1).f3).length c188_3) BK189.out 3
             have hcz78_4 := cz_ (.int .i64 ((rd_T41 l0 x9_1).f4)) BK189.out 4
             have hfz78_0 := blk_frozen BK189.out 0
             have hfz78_1 := blk_frozen BK189.out 1
             have hfz78_2 := blk_frozen BK189.out 2
             have hfz78_3 := blk_frozen BK189.out 3
             have hfz78_4 := blk_frozen BK189.out 4
             go_wp2_with (first | ((with_reducible refine gate_callee (f := 56) rfl ?_); refine goesL_ (some 47) rfl rfl Tryd.func56 (by kernel_rfl) rfl #[.slice A188_3 ((rd_T41 l0 x9_1).f3).length c188_3] rfl ga_ ?_; (with_reducible refine (ih k2 (by have := HK1.out; have := HK2.out; omega) _ _ ((rd_T41 l0 x9_1).f3) false _ ?side1 ?side2 A74.out).mono ?_); (case side1 => repeat (first | exact (Kd.C_below HR188_3.out HB.out) | (with_reducible refine Kd.C_alloc ?_ _) | (with_reducible refine Kd.C_drewN ?_ _) | (with_reducible refine Kd.C_drew ?_))); (case side2 => exact HC188_3.out); rintro e w79 ⟨rfl, hb⟩; refine ⟨_, rfl, ?_⟩; refine cut2_ (bb_ BK189.out hb) (below_step (bl1_ HB.out GE189.out) hb) ?_; clear BK189 HB; intro BK189 HB; (try clear hb); (try clear hb2); (try clear hk); (try clear hi)))
             go_ret
             exact ⟨er_, bl1_ HB.out GE189.out⟩
      ·
       replace c6 := Bool.eq_false_iff.mpr c6
       subst c6
       have H1 : (some false) = some r := by rw [if_neg (show ¬ (false = true) by decide)] at H; exact H
       clear H
       have H := H1
       clear H1
       obtain rfl := Option.some.inj H
       have p188 : 0 ≤ (x9_1 : Int) := dt_
       have q188 : x9_1 < (l0.length : Int) := dt_
       obtain ⟨ad188, A188_1, c188_1, A188_3, c188_3, e188, hx188_0, hx188_1, hx188_2, hx188_3, hx188_4, hl188_1, hi188_1, hl188_3, hi188_3⟩ := at_T41 HR0.out x9_1 p188 q188
       cases e188
       replace hx188_0 := pw_cell_below HB.out hx188_0
       replace hx188_1 := pw_cell_below HB.out hx188_1
       replace hx188_2 := pw_cell_below HB.out hx188_2
       replace hx188_3 := pw_cell_below HB.out hx188_3
       replace hx188_4 := pw_cell_below HB.out hx188_4
       have HR188_1 := Aside0.mk hi188_1
       have HC188_1 := Aside0.mk hl188_1
       clear hi188_1 hl188_1
       have HR188_3 := Aside0.mk hi188_3
       have HC188_3 := Aside0.mk hl188_3
       clear hi188_3 hl188_3
       replace p188 := eq_true p188
       replace q188 := eq_true q188
       go_wp2_with (first | ((with_reducible refine gate_dst (N := 4) rfl ?_); (try (refine gate_guard (by rfl) ?_; dsimp only)); refine bx_ (N := 4) (cs := #[.string (⟨#[]⟩ : ByteArray), .slice none 0 0, .bool false, .slice none 0 0, .int .i64 0]) (t := 41) ?_; intro gb189 hg w80 hbox hb; refine cut4_ (below_step (bl_ HB.out) hb) (hbox) (bz_ (w := w) hg (bl_ HB.out)) (bz_ (w := w) hg (bl_ HB.out)) ?_; clear HB; intro HB BK189 GW189 GE189; clear hb hbox hg; obtain ⟨hcz81_0, hcz81_1, hcz81_2, hcz81_3, hcz81_4, hfz81_0, hfz81_1, hfz81_2, hfz81_3, hfz81_4⟩ := cq5_ BK189.out) | ((with_reducible refine gate_callee (f := 36) rfl ?_); refine goesL_ (some 16) rfl rfl Tryd.func36 (by kernel_rfl) rfl #[.agg #[.int .i64 1, .string ((rd_T41 l0 x9_1).f0), .int .i64 0, .int .i64 0]] rfl ga_ ?_; (with_reducible refine (lexer_Valid.calls k1 1 ((rd_T41 l0 x9_1).f0) 0 0 false _ A5.out).mono ?_); rintro e w82 ⟨rfl, hb⟩; refine ⟨_, rfl, ?_⟩; refine cut2_ (blk_below (g := gb189) (o := .cells #[.string ((rd_T41 l0 x9_1).f0), .slice A188_1 ((rd_T41 l0 x9_1).f1).length c188_1, .bool ((rd_T41 l0 x9_1).f2), .slice A188_3 ((rd_T41 l0 x9_1).f3).length c188_3, .int .i64 ((rd_T41 l0 x9_1).f4)] 41 (0, 0)) (put5_ (bk_ BK189.out)) hb) (below_step (bl1_ HB.out GE189.out) hb) ?_; clear BK189 HB; intro BK189 HB; (try clear hb); (try clear hb2); (try clear hk); (try clear hi)))
       go_ret
       exact ⟨er_, bl1_ HB.out GE189.out⟩
     ·
      rw [if_neg c4] at H
      exact absurd H (by simp)
    ·
     rw [if_neg c3] at H
     exact absurd H (by simp)
   ·
    rw [if_neg c2] at H
    have c2b0 := decide_eq_false c2
    clear c2
    obtain rfl := Option.some.inj H
    go_wp2
    go_ret
    exact ⟨er_, bl_ HB.out⟩
/-! ### parser_Check: function 26 -/
def parser_Check.f (k : Nat) (l0 : List (S41)) : Option (Int) := (parser_formed.f k l0).bind fun t196 => (if t196 = true then ((parser_Depth.f k l0).bind fun t197 => (if t197 > 8 then (some 6) else (some 0))) else (some 2))
theorem parser_Check.mono : ∀ a0 k, LeO (parser_Check.f k a0) (parser_Check.f (k + 1) a0) := by
 intro a0 k
 unfold parser_Check.f
 repeat' first
   | (with_reducible exact LeO.refl _)
   | exact parser_Depth.mono _ _
   | exact parser_formed.mono _ _
   | exact LeO.none _
   | refine LeO.ite ?_ ?_
   | refine LeO.bind ?_ (fun _ => ?_)
set_option maxHeartbeats 8000000 in
set_option maxRecDepth 100000 in
theorem parser_Check.calls (k : Nat) (A0 : Option Addr) (c0 : Nat) (l0 : List (S41)) (r : Int) (w : World) (hr0 : Kd.C k41 w A0 l0.length l0) (hc0 : l0.length ≤ c0) (h : parser_Check.f k l0 = some r) :
  Calls Tryd.prog 26 #[.slice A0 l0.length c0] w fun e w' => e = .returned (.int .i64 r) ∧ Below w.heap.size w w' := by
 have HR0 := Aside0.mk hr0
 have HC0 := Aside0.mk hc0
 clear hr0 hc0
 have HB := Aside0.mk (Below.refl w.heap.size w)
 have H : ((parser_formed.f k l0).bind fun t196 => (if t196 = true then ((parser_Depth.f k l0).bind fun t197 => (if t197 > 8 then (some 6) else (some 0))) else (some 2))) = some r := h
 clear h
 replace H := Option.bind_eq_some_iff.mp H
 obtain ⟨t196, A20, H⟩ := H
 (try dsimp only at H)
 have A2 := Aside0.mk A20
 clear A20
 by_cases c3 : t196 = true
 ·
  subst c3
  have H1 : ((parser_Depth.f k l0).bind fun t197 => (if t197 > 8 then (some 6) else (some 0))) = some r := by rw [if_pos rfl] at H; exact H
  clear H
  have H := H1
  clear H1
  replace H := Option.bind_eq_some_iff.mp H
  obtain ⟨t197, A40, H⟩ := H
  (try dsimp only at H)
  have A4 := Aside0.mk A40
  clear A40
  by_cases c5 : t197 > 8
  ·
   rw [if_pos c5] at H
   have c5b0 := decide_eq_true c5
   clear c5
   obtain rfl := Option.some.inj H
   go_enter Tryd.func26, Tryd.ntmps26
   go_wp2_with (first | ((with_reducible refine gate_callee (f := 56) rfl ?_); refine goesL_ (some 5) rfl rfl Tryd.func56 (by kernel_rfl) rfl #[.slice A0 l0.length c0] rfl ga_ ?_; (with_reducible refine (parser_formed.calls k _ _ l0 true _ ?side1 ?side2 A2.out).mono ?_); (case side1 => repeat (first | exact HR0.out | (with_reducible refine Kd.C_alloc ?_ _) | (with_reducible refine Kd.C_drewN ?_ _) | (with_reducible refine Kd.C_drew ?_))); (case side2 => exact HC0.out); rintro e w6 ⟨rfl, hb⟩; refine ⟨_, rfl, ?_⟩; refine cut1_ (below_step (bl_ HB.out) hb) ?_; clear HB; intro HB; (try clear hb); (try clear hb2); (try clear hk); (try clear hi)) | ((with_reducible refine gate_callee (f := 31) rfl ?_); refine goesL_ (some 9) rfl rfl Tryd.func31 (by kernel_rfl) rfl #[.slice A0 l0.length c0] rfl ga_ ?_; (with_reducible refine (parser_Depth.calls k _ _ l0 t197 _ ?side1 ?side2 A4.out).mono ?_); (case side1 => repeat (first | exact (Kd.C_below HR0.out HB.out) | (with_reducible refine Kd.C_alloc ?_ _) | (with_reducible refine Kd.C_drewN ?_ _) | (with_reducible refine Kd.C_drew ?_))); (case side2 => exact HC0.out); rintro e w7 ⟨rfl, hb⟩; refine ⟨_, rfl, ?_⟩; refine cut1_ (below_step (bl_ HB.out) hb) ?_; clear HB; intro HB; (try clear hb); (try clear hb2); (try clear hk); (try clear hi)))
   go_ret
   exact ⟨er_, bl_ HB.out⟩
  ·
   rw [if_neg c5] at H
   have c5b0 := decide_eq_false c5
   clear c5
   obtain rfl := Option.some.inj H
   go_enter Tryd.func26, Tryd.ntmps26
   go_wp2_with (first | ((with_reducible refine gate_callee (f := 56) rfl ?_); refine goesL_ (some 5) rfl rfl Tryd.func56 (by kernel_rfl) rfl #[.slice A0 l0.length c0] rfl ga_ ?_; (with_reducible refine (parser_formed.calls k _ _ l0 true _ ?side1 ?side2 A2.out).mono ?_); (case side1 => repeat (first | exact HR0.out | (with_reducible refine Kd.C_alloc ?_ _) | (with_reducible refine Kd.C_drewN ?_ _) | (with_reducible refine Kd.C_drew ?_))); (case side2 => exact HC0.out); rintro e w8 ⟨rfl, hb⟩; refine ⟨_, rfl, ?_⟩; refine cut1_ (below_step (bl_ HB.out) hb) ?_; clear HB; intro HB; (try clear hb); (try clear hb2); (try clear hk); (try clear hi)) | ((with_reducible refine gate_callee (f := 31) rfl ?_); refine goesL_ (some 9) rfl rfl Tryd.func31 (by kernel_rfl) rfl #[.slice A0 l0.length c0] rfl ga_ ?_; (with_reducible refine (parser_Depth.calls k _ _ l0 t197 _ ?side1 ?side2 A4.out).mono ?_); (case side1 => repeat (first | exact (Kd.C_below HR0.out HB.out) | (with_reducible refine Kd.C_alloc ?_ _) | (with_reducible refine Kd.C_drewN ?_ _) | (with_reducible refine Kd.C_drew ?_))); (case side2 => exact HC0.out); rintro e w9 ⟨rfl, hb⟩; refine ⟨_, rfl, ?_⟩; refine cut1_ (below_step (bl_ HB.out) hb) ?_; clear HB; intro HB; (try clear hb); (try clear hb2); (try clear hk); (try clear hi)))
   go_ret
   exact ⟨er_, bl_ HB.out⟩
 ·
  replace c3 := Bool.eq_false_iff.mpr c3
  subst c3
  have H1 : (some 2) = some r := by rw [if_neg (show ¬ (false = true) by decide)] at H; exact H
  clear H
  have H := H1
  clear H1
  obtain rfl := Option.some.inj H
  go_enter Tryd.func26, Tryd.ntmps26
  go_wp2_with (first | ((with_reducible refine gate_callee (f := 56) rfl ?_); refine goesL_ (some 5) rfl rfl Tryd.func56 (by kernel_rfl) rfl #[.slice A0 l0.length c0] rfl ga_ ?_; (with_reducible refine (parser_formed.calls k _ _ l0 false _ ?side1 ?side2 A2.out).mono ?_); (case side1 => repeat (first | exact HR0.out | (with_reducible refine Kd.C_alloc ?_ _) | (with_reducible refine Kd.C_drewN ?_ _) | (with_reducible refine Kd.C_drew ?_))); (case side2 => exact HC0.out); rintro e w10 ⟨rfl, hb⟩; refine ⟨_, rfl, ?_⟩; refine cut1_ (below_step (bl_ HB.out) hb) ?_; clear HB; intro HB; (try clear hb); (try clear hb2); (try clear hk); (try clear hi)))
  go_ret
  exact ⟨er_, bl_ HB.out⟩
/-! ### parser_Count: function 30 -/
mutual
def parser_Count.l0 : Nat → Int → List (S41) → Int → Int → Option (Int)
 | 0, _, _, _, _ => none
 | k + 1, x3, x8, x9, x10 => if x10 < x9 then (if 0 ≤ x10 then (if x10 < (x8.length : Int) then ((parser_Count.f k ((rd_T41 x8 x10).f3)).bind fun t200 => (parser_Count.l0 k (wrap64 (x3 + t200)) x8 x9 (wrap64 (x10 + 1)))) else (none)) else (none)) else (some x3)
def parser_Count.f : Nat → List (S41) → Option (Int)
 | 0, _ => none
 | k + 1, l0 => parser_Count.l0 k (l0.length : Int) l0 (l0.length : Int) 0
end
theorem parser_Count.mono_l : ∀ k, (∀ y0, LeO (parser_Count.f k y0) (parser_Count.f (k + 1) y0)) ∧ (∀ y0 y1 y2 y3, LeO (parser_Count.l0 k y0 y1 y2 y3) (parser_Count.l0 (k + 1) y0 y1 y2 y3))
 | 0 => ⟨fun _ r h => by simp [parser_Count.f] at h, fun _ _ _ _ r h => by simp [parser_Count.l0] at h⟩
 | k + 1 => by
  obtain ⟨ih0, ih1⟩ := parser_Count.mono_l k
  refine ⟨?_, ?_⟩
  ·
   intro y0
   unfold parser_Count.f
   repeat' first
   | (with_reducible exact LeO.refl _)
   | exact ih0 _
   | exact ih1 _ _ _ _
   | exact LeO.none _
   | refine LeO.ite ?_ ?_
   | refine LeO.bind ?_ (fun _ => ?_)
  ·
   intro y0 y1 y2 y3
   unfold parser_Count.l0
   repeat' first
   | (with_reducible exact LeO.refl _)
   | exact ih0 _
   | exact ih1 _ _ _ _
   | exact LeO.none _
   | refine LeO.ite ?_ ?_
   | refine LeO.bind ?_ (fun _ => ?_)
theorem parser_Count.mono : ∀ a0 k, LeO (parser_Count.f k a0) (parser_Count.f (k + 1) a0) := by
 intro a0 k
 obtain ⟨ih0, ih1⟩ := parser_Count.mono_l k
 exact ih0 a0
set_option maxHeartbeats 8000000 in
set_option maxRecDepth 100000 in
theorem parser_Count.calls (k : Nat) : ∀ (A0 : Option Addr) (c0 : Nat) (l0 : List (S41)) (r : Int) (w : World) (hr0 : Kd.C k41 w A0 l0.length l0) (hc0 : l0.length ≤ c0) (h : parser_Count.f k l0 = some r),
  Calls Tryd.prog 30 #[.slice A0 l0.length c0] w fun e w' => e = .returned (.int .i64 r) ∧ Below w.heap.size w w' := by
 induction k using Nat.strongRecOn with
 | _ k ih =>
 intro A0 c0 l0 r w hr0 hc0 h
 cases k with
 | zero => exact absurd h (by simp [parser_Count.f])
 | succ k =>
 simp only [parser_Count.f] at h
 have hu41 := Tryd.underlying41
 have HR0 := Aside0.mk hr0
 have HC0 := Aside0.mk hc0
 clear hr0 hc0
 have HB := Aside0.mk (Below.refl w.heap.size w)
 have H : (parser_Count.l0 k (l0.length : Int) l0 (l0.length : Int) 0) = some r := h
 clear h
 have H' := Aside0.mk H
 clear H
 go_enter Tryd.func30, Tryd.ntmps30
 go_wp2
 go_loopg [3, 10] k (fun kq v3 v10 w' => ∃ (x3_1 : Int) (x10_1 : Int), v3 = .int .i64 x3_1 ∧ v10 = .int .i64 x10_1 ∧ Aside0 (parser_Count.l0 kq x3_1 l0 (l0.length : Int) x10_1 = some r) ∧ Aside0 (kq ≤ k) ∧ Aside0 (Below w.heap.size w w'))
 case atStart => exact ⟨((l0.length : Int)), (0), sr_, sr_, H', ⟨Nat.le_refl _⟩, ⟨bl_ HB.out⟩⟩
 case round =>
  clear H'
  obtain ⟨x3_1, x10_1, rfl, rfl, HA, HK1, HB⟩ := hrel
  cases gk with
  | zero => exact absurd HA.out (by simp [parser_Count.l0])
  | succ k1 =>
   have H := HA.out
   clear HA
   simp only [parser_Count.l0] at H
   by_cases c2 : x10_1 < (l0.length : Int)
   ·
    rw [if_pos c2] at H
    have c2b0 := decide_eq_true c2
    clear c2
    by_cases c3 : 0 ≤ x10_1
    ·
     rw [if_pos c3] at H
     have c3b0 := decide_eq_true c3
     clear c3
     by_cases c4 : x10_1 < (l0.length : Int)
     ·
      rw [if_pos c4] at H
      have c4b0 := decide_eq_true c4
      clear c4
      replace H := Option.bind_eq_some_iff.mp H
      obtain ⟨t200, A50, H⟩ := H
      (try dsimp only at H)
      have A5 := Aside0.mk A50
      clear A50
      have H' := Aside0.mk H
      clear H
      have p198 : 0 ≤ (x10_1 : Int) := dt_
      have q198 : x10_1 < (l0.length : Int) := dt_
      obtain ⟨ad198, A198_1, c198_1, A198_3, c198_3, e198, hx198_0, hx198_1, hx198_2, hx198_3, hx198_4, hl198_1, hi198_1, hl198_3, hi198_3⟩ := at_T41 HR0.out x10_1 p198 q198
      cases e198
      replace hx198_0 := pw_cell_below HB.out hx198_0
      replace hx198_1 := pw_cell_below HB.out hx198_1
      replace hx198_2 := pw_cell_below HB.out hx198_2
      replace hx198_3 := pw_cell_below HB.out hx198_3
      replace hx198_4 := pw_cell_below HB.out hx198_4
      have HR198_1 := Aside0.mk hi198_1
      have HC198_1 := Aside0.mk hl198_1
      clear hi198_1 hl198_1
      have HR198_3 := Aside0.mk hi198_3
      have HC198_3 := Aside0.mk hl198_3
      clear hi198_3 hl198_3
      replace p198 := eq_true p198
      replace q198 := eq_true q198
      go_wp2_with (first | ((with_reducible refine gate_dst (N := 5) rfl ?_); refine bx_ (N := 5) (cs := #[.string (⟨#[]⟩ : ByteArray), .slice none 0 0, .bool false, .slice none 0 0, .int .i64 0]) (t := 41) ?_; intro gb199 hg w6 hbox hb; refine cut4_ (below_step (bl_ HB.out) hb) (hbox) (bz_ (w := w) hg (bl_ HB.out)) (bz_ (w := w) hg (bl_ HB.out)) ?_; clear HB; intro HB BK199 GW199 GE199; clear hb hbox hg; obtain ⟨hcz7_0, hcz7_1, hcz7_2, hcz7_3, hcz7_4, hfz7_0, hfz7_1, hfz7_2, hfz7_3, hfz7_4⟩ := cq5_ BK199.out) | ((with_reducible refine gate_callee (f := 30) rfl ?_); refine goesL_ (some 17) rfl rfl Tryd.func30 (by kernel_rfl) rfl #[.slice A198_3 ((rd_T41 l0 x10_1).f3).length c198_3] rfl ga_ ?_; (with_reducible refine (ih k1 (by have := HK1.out; omega) _ _ ((rd_T41 l0 x10_1).f3) t200 _ ?side1 ?side2 A5.out).mono ?_); (case side1 => exact Kd.C_below HR198_3.out (bl1_ HB.out GE199.out)); (case side2 => exact HC198_3.out); rintro e w8 ⟨rfl, hb⟩; refine ⟨_, rfl, ?_⟩; refine cut2_ (blk_below (g := gb199) (o := .cells #[.string ((rd_T41 l0 x10_1).f0), .slice A198_1 ((rd_T41 l0 x10_1).f1).length c198_1, .bool ((rd_T41 l0 x10_1).f2), .slice A198_3 ((rd_T41 l0 x10_1).f3).length c198_3, .int .i64 ((rd_T41 l0 x10_1).f4)] 41 (0, 0)) (put5_ (bk_ BK199.out)) hb) (below_step (bl1_ HB.out GE199.out) hb) ?_; clear BK199 HB; intro BK199 HB; (try clear hb); (try clear hb2); (try clear hk); (try clear hi)))
      go_roundg k1
      case measure => have := HK1.out; omega
      case rel => exact ⟨(wrap64 (x3_1 + t200)), (wrap64 (x10_1 + 1)), sr_, sr_, H', ⟨by have := HK1.out; omega⟩, ⟨bl1_ HB.out GE199.out⟩⟩
     ·
      rw [if_neg c4] at H
      exact absurd H (by simp)
    ·
     rw [if_neg c3] at H
     exact absurd H (by simp)
   ·
    rw [if_neg c2] at H
    have c2b0 := decide_eq_false c2
    clear c2
    obtain rfl := Option.some.inj H
    go_wp2
    go_ret
    exact ⟨er_, bl_ HB.out⟩
/-! ### parser_Find: function 51 -/
def parser_Find.l0 : Nat → ByteArray → List (S41) → List (S41) → Int → Int → Option ((List (S41)))
 | 0, _, _, _, _, _ => none
 | k + 1, x1, x5, x8, x9, x10 => if x10 < x9 then (if 0 ≤ x10 then (if x10 < (x8.length : Int) then (if ((rd_T41 x8 x10).f0).toList = x1.toList then (if x5.length < 1759218604441 then (parser_Find.l0 k x1 (x5 ++ [(⟨(rd_T41 x8 x10).f0, (rd_T41 x8 x10).f1, (rd_T41 x8 x10).f2, (rd_T41 x8 x10).f3, (rd_T41 x8 x10).f4⟩ : S41)]) x8 x9 (wrap64 (x10 + 1))) else (none)) else (parser_Find.l0 k x1 x5 x8 x9 (wrap64 (x10 + 1)))) else (none)) else (none)) else (some x5)
def parser_Find.f (k : Nat) (l0 : List (S41)) (a1 : ByteArray) : Option ((List (S41))) := parser_Find.l0 k a1 ([] : List (S41)) l0 (l0.length : Int) 0
theorem parser_Find.mono_l : ∀ k, (∀ y0 y1 y2 y3 y4, LeO (parser_Find.l0 k y0 y1 y2 y3 y4) (parser_Find.l0 (k + 1) y0 y1 y2 y3 y4))
 | 0 => fun _ _ _ _ _ r h => by simp [parser_Find.l0] at h
 | k + 1 => by
  have ih0 := parser_Find.mono_l k
  ·
   intro y0 y1 y2 y3 y4
   unfold parser_Find.l0
   repeat' first
   | (with_reducible exact LeO.refl _)
   | exact ih0 _ _ _ _ _
   | exact LeO.none _
   | refine LeO.ite ?_ ?_
   | refine LeO.bind ?_ (fun _ => ?_)
theorem parser_Find.mono : ∀ a0 a1 k, LeO (parser_Find.f k a0 a1) (parser_Find.f (k + 1) a0 a1) := by
 intro a0 a1 k
 have ih0 := parser_Find.mono_l k
 unfold parser_Find.f
 repeat' first
   | (with_reducible exact LeO.refl _)
   | exact ih0 _ _ _ _ _
   | exact LeO.none _
   | refine LeO.ite ?_ ?_
   | refine LeO.bind ?_ (fun _ => ?_)
set_option maxHeartbeats 8000000 in
set_option maxRecDepth 100000 in
theorem parser_Find.calls (k : Nat) (P0_ : Nat → Prop) (A0 : Option Addr) (c0 : Nat) (l0 : List (S41)) (a1 : ByteArray) (r : List (S41)) (w : World) (hs0 : Kd.V k41 41 w w.heap.size (fun k_ => P0_ k_) (.slice A0 l0.length c0) l0) (h : parser_Find.f k l0 a1 = some r) :
  Calls Tryd.prog 51 #[.slice A0 l0.length c0, .string a1] w fun e w' => ∃ v0_ : Value, e = .returned (v0_) ∧ Kd.N k41 41 w' w.heap.size (fun k_ => (P0_ k_ ∨ w.heap.size ≤ k_)) v0_ r ∧ Below w.heap.size w w' := by
 have hu41 := Tryd.underlying41
 have HO0 := Aside0.mk (show Kd.V k41 41 w w.heap.size (fun k_ => (P0_ k_ ∨ w.heap.size ≤ k_)) (.slice A0 l0.length c0) l0 from Kd.V_mono hs0 (fun k_ hk => .inl hk))
 have HB := Aside0.mk (Below.refl w.heap.size w)
 have H : (parser_Find.l0 k a1 ([] : List (S41)) l0 (l0.length : Int) 0) = some r := h
 clear h
 have H' := Aside0.mk H
 clear H
 go_enter Tryd.func51, Tryd.ntmps51
 go_wp2
 go_loopg [5, 10] k (fun kq v5 v10 w' => ∃ (x5_1 : List (S41)) (x10_1 : Int), v10 = .int .i64 x10_1 ∧ Aside0 (parser_Find.l0 kq a1 x5_1 l0 (l0.length : Int) x10_1 = some r) ∧ Aside0 (kq ≤ k) ∧ Aside0 (Kd.N k41 41 w' w.heap.size (fun k_ => (P0_ k_ ∨ w.heap.size ≤ k_)) v5 x5_1) ∧ Aside0 (Kd.V k41 41 w' w.heap.size (fun k_ => (P0_ k_ ∨ w.heap.size ≤ k_) ∧ some k_ ≠ (v5 : Value).ownBlock) (.slice A0 l0.length c0) l0) ∧ Aside0 (Below w.heap.size w w'))
 case atStart => exact ⟨(([] : List (S41))), (0), sr_, H', ⟨Nat.le_refl _⟩, ⟨ni_⟩, ⟨by (with_reducible repeat (first | apply Kd.V_alloc | apply Kd.V_drewN | apply Kd.V_drew)); exact Kd.V_mono HO0.out (fun _ hk => ⟨hk, (by simp [Value.ownBlock])⟩)⟩, ⟨bl_ HB.out⟩⟩
 case round =>
  clear H'
  try clear p2
  obtain ⟨x5_1, x10_1, rfl, HA, HK1, HO_5, HO_8, HB⟩ := hrel
  cases gk with
  | zero => exact absurd HA.out (by simp [parser_Find.l0])
  | succ k1 =>
   have H := HA.out
   clear HA
   simp only [parser_Find.l0] at H
   by_cases c3 : x10_1 < (l0.length : Int)
   ·
    rw [if_pos c3] at H
    have c3b0 := decide_eq_true c3
    clear c3
    by_cases c4 : 0 ≤ x10_1
    ·
     rw [if_pos c4] at H
     have c4b0 := decide_eq_true c4
     clear c4
     by_cases c5 : x10_1 < (l0.length : Int)
     ·
      rw [if_pos c5] at H
      have c5b0 := decide_eq_true c5
      clear c5
      by_cases c6 : ((rd_T41 l0 x10_1).f0).toList = a1.toList
      ·
       rw [if_pos c6] at H
       have c6b0 := beq_iff_eq.mpr c6
       have c6b1 := bne_eq_false_iff_eq.mpr c6
       clear c6
       by_cases c7 : x5_1.length < 1759218604441
       ·
        rw [if_pos c7] at H
        have LMc7 := Aside0.mk c7
        clear c7
        obtain ⟨y203, hy203⟩ : ∃ y_ : List (S41), y_ = (x5_1 ++ [(⟨(rd_T41 l0 x10_1).f0, (rd_T41 l0 x10_1).f1, (rd_T41 l0 x10_1).f2, (rd_T41 l0 x10_1).f3, (rd_T41 l0 x10_1).f4⟩ : S41)]) := ⟨_, rfl⟩
        replace H : (parser_Find.l0 k1 a1 y203 l0 (l0.length : Int) (wrap64 (x10_1 + 1))) = some r := by first | (rw [hy203]; with_reducible exact H) | (have H2_ := (Option.bind_some _ _).symm.trans H; rw [hy203]; with_reducible exact H2_) | (have H2_ := (Option.bind_some _ _).symm.trans H; with_reducible exact H2_) | with_reducible exact H | (rw [hy203]; exact H) | exact H
        have Ny203 := Aside0.mk hy203
        clear hy203
        have H' := Aside0.mk H
        clear H
        have p201 : 0 ≤ (x10_1 : Int) := dt_
        have q201 : x10_1 < (l0.length : Int) := dt_
        obtain ⟨ad201, A201_1, c201_1, A201_3, c201_3, e201, hx201_0, hx201_1, hx201_2, hx201_3, hx201_4, hl201_1, hi201_1, hl201_3, hi201_3⟩ := at_T41 (Kd.V_reads' HO_8.out).2.2 x10_1 p201 q201
        cases e201
        obtain ⟨ce201, hce201, hMe201, hcc201⟩ := Kd.V_get HO_8.out z41 x10_1 p201 (by first | exact q201 | exact dt_ | (have e_ := (Kd.V_reads' HO_8.out).1; omega))
        obtain ⟨ua201_1, uc201_1, ua201_3, uc201_3, rfl, ul201_1, ge201_1, ul201_3, ge201_3⟩ := k41_openF hMe201
        have hv201_1 := hcc201 1 _ rfl
        rw [add_field _ _ 1 (by omega)] at hv201_1
        replace hv201_1 := Option.some.inj (hv201_1.symm.trans hx201_1)
        injection hv201_1 with hva_ hvn_ hvc_
        rw [hva_] at ge201_1
        rw [hvc_] at ul201_1
        have HL201_1 := Aside0.mk (show Kd.V k46 46 _ w.heap.size _ _ ((rd_T41 l0 x10_1).f1) from Kd.V_mk ul201_1 ge201_1)
        clear hva_ hvn_ hvc_ ge201_1 ul201_1
        have hv201_3 := hcc201 3 _ rfl
        rw [add_field _ _ 3 (by omega)] at hv201_3
        replace hv201_3 := Option.some.inj (hv201_3.symm.trans hx201_3)
        injection hv201_3 with hva_ hvn_ hvc_
        rw [hva_] at ge201_3
        rw [hvc_] at ul201_3
        have HL201_3 := Aside0.mk (show Kd.V k41 41 _ w.heap.size _ _ ((rd_T41 l0 x10_1).f3) from Kd.V_mk ul201_3 ge201_3)
        clear hva_ hvn_ hvc_ ge201_3 ul201_3
        clear hcc201 hce201
        have HR201_1 := Aside0.mk hi201_1
        have HC201_1 := Aside0.mk hl201_1
        clear hi201_1 hl201_1
        have HR201_3 := Aside0.mk hi201_3
        have HC201_3 := Aside0.mk hl201_3
        clear hi201_3 hl201_3
        replace p201 := eq_true p201
        replace q201 := eq_true q201
        go_wp2_with (first | ((with_reducible refine gate_dst (N := 7) rfl ?_); refine bx_ (N := 7) (cs := #[.string (⟨#[]⟩ : ByteArray), .slice none 0 0, .bool false, .slice none 0 0, .int .i64 0]) (t := 41) ?_; intro gb202 hg w8 hbox hb; refine cut10_ (Kd.N_below (Kd.N_elderB (rN_ HO_5.out) gb202 (Nat.le_of_eq hg.symm)) hb) (Kd.V_below (Kd.V_elderB (rV_ HO_8.out) gb202 (Nat.le_of_eq hg.symm)) hb) (Kd.V_below (Kd.V_elderB (rV_ HL201_1.out) gb202 (Nat.le_of_eq hg.symm)) hb) (Kd.V_below (Kd.V_elderB (rV_ HL201_3.out) gb202 (Nat.le_of_eq hg.symm)) hb) (Kd.C_below (cb_ HR201_1.out) hb) (Kd.C_below (cb_ HR201_3.out) hb) (below_step (bl_ HB.out) hb) (hbox) (bz_ (w := w) hg (bl_ HB.out)) (bz_ (w := w) hg (bl_ HB.out)) ?_; clear HO_5 HO_8 HL201_1 HL201_3 HR201_1 HR201_3 HB; intro HO_5 HO_8 HL201_1 HL201_3 HR201_1 HR201_3 HB BK202 GW202 GE202; clear hb hbox hg; obtain ⟨hcz9_0, hcz9_1, hcz9_2, hcz9_3, hcz9_4, hfz9_0, hfz9_1, hfz9_2, hfz9_3, hfz9_4⟩ := cq5_ BK202.out) | ((with_reducible refine gate_store (t := 41) (p := 7) rfl ?_); refine store_event (t := 41) (p := 7) (v := ?vo_w10) (w1 := (((((w8.setCell ⟨gb202, 0, none⟩ (.string ((rd_T41 l0 x10_1).f0))).setCell ⟨gb202, 1, none⟩ (.slice A201_1 ((rd_T41 l0 x10_1).f1).length c201_1)).setCell ⟨gb202, 2, none⟩ (.bool ((rd_T41 l0 x10_1).f2))).setCell ⟨gb202, 3, none⟩ (.slice A201_3 ((rd_T41 l0 x10_1).f3).length c201_3)).setCell ⟨gb202, 4, none⟩ (.int .i64 ((rd_T41 l0 x10_1).f4)))) ?hg ?ho ?hn ?hr ?_; (case ho => rfl); (case hg => rfl); (case hn => rfl); (case hr => first | (go_simp; done) | (go_simp; rfl)); intro w10 hw; have n0_ : Aside0 (Kd.N k41 41 w10 w.heap.size (fun k_ => (P0_ k_ ∨ w.heap.size ≤ k_) ∧ k_ ≠ gb202) u5 x5_1) := ⟨(by rw [hw]; exact (by (with_reducible repeat (first | apply Kd.N_alloc | apply Kd.N_drewN | apply Kd.N_drew)); exact Kd.N_mono (Kd.N_far (p := ⟨gb202, 4, none⟩) (Kd.N_far (p := ⟨gb202, 3, none⟩) (Kd.N_far (p := ⟨gb202, 2, none⟩) (Kd.N_far (p := ⟨gb202, 1, none⟩) (Kd.N_far (p := ⟨gb202, 0, none⟩) (Kd.N_mono HO_5.out (fun k_ hk => (⟨hk, hk.2⟩ : _ ∧ k_ ≠ gb202))) (fun _ hk => hk.2) (.string ((rd_T41 l0 x10_1).f0))) (fun _ hk => hk.2) (.slice A201_1 ((rd_T41 l0 x10_1).f1).length c201_1)) (fun _ hk => hk.2) (.bool ((rd_T41 l0 x10_1).f2))) (fun _ hk => hk.2) (.slice A201_3 ((rd_T41 l0 x10_1).f3).length c201_3)) (fun _ hk => hk.2) (.int .i64 ((rd_T41 l0 x10_1).f4))) (fun _ hk => ⟨hk.1.1, hk.1.2⟩)))⟩; have n1_ : Aside0 (Kd.V k41 41 w10 w.heap.size (fun k_ => (P0_ k_ ∨ w.heap.size ≤ k_) ∧ some k_ ≠ (u5 : Value).ownBlock ∧ k_ ≠ gb202) (.slice (some ad201) l0.length c0) l0) := ⟨(by rw [hw]; exact (by (with_reducible repeat (first | apply Kd.V_alloc | apply Kd.V_drewN | apply Kd.V_drew)); exact Kd.V_mono (Kd.V_far (p := ⟨gb202, 4, none⟩) (Kd.V_far (p := ⟨gb202, 3, none⟩) (Kd.V_far (p := ⟨gb202, 2, none⟩) (Kd.V_far (p := ⟨gb202, 1, none⟩) (Kd.V_far (p := ⟨gb202, 0, none⟩) (Kd.V_mono HO_8.out (fun k_ hk => (⟨hk, hk.2⟩ : _ ∧ k_ ≠ gb202))) (fun _ hk => hk.2) (.string ((rd_T41 l0 x10_1).f0))) (fun _ hk => hk.2) (.slice A201_1 ((rd_T41 l0 x10_1).f1).length c201_1)) (fun _ hk => hk.2) (.bool ((rd_T41 l0 x10_1).f2))) (fun _ hk => hk.2) (.slice A201_3 ((rd_T41 l0 x10_1).f3).length c201_3)) (fun _ hk => hk.2) (.int .i64 ((rd_T41 l0 x10_1).f4))) (fun _ hk => ⟨hk.1.1.1, ⟨hk.1.1.2, hk.1.2⟩⟩)))⟩; have n2_ : Aside0 (Kd.V k46 46 w10 w.heap.size (fun k_ => (P0_ k_ ∨ w.heap.size ≤ k_) ∧ some k_ ≠ (u5 : Value).ownBlock ∧ k_ ≠ gb202) (.slice A201_1 ((rd_T41 l0 x10_1).f1).length c201_1) ((rd_T41 l0 x10_1).f1)) := ⟨(by rw [hw]; exact (by (with_reducible repeat (first | apply Kd.V_alloc | apply Kd.V_drewN | apply Kd.V_drew)); exact Kd.V_mono (Kd.V_far (p := ⟨gb202, 4, none⟩) (Kd.V_far (p := ⟨gb202, 3, none⟩) (Kd.V_far (p := ⟨gb202, 2, none⟩) (Kd.V_far (p := ⟨gb202, 1, none⟩) (Kd.V_far (p := ⟨gb202, 0, none⟩) (Kd.V_mono HL201_1.out (fun k_ hk => (⟨hk, hk.2⟩ : _ ∧ k_ ≠ gb202))) (fun _ hk => hk.2) (.string ((rd_T41 l0 x10_1).f0))) (fun _ hk => hk.2) (.slice A201_1 ((rd_T41 l0 x10_1).f1).length c201_1)) (fun _ hk => hk.2) (.bool ((rd_T41 l0 x10_1).f2))) (fun _ hk => hk.2) (.slice A201_3 ((rd_T41 l0 x10_1).f3).length c201_3)) (fun _ hk => hk.2) (.int .i64 ((rd_T41 l0 x10_1).f4))) (fun _ hk => ⟨hk.1.1.1, ⟨hk.1.1.2, hk.1.2⟩⟩)))⟩; have n3_ : Aside0 (Kd.V k41 41 w10 w.heap.size (fun k_ => (P0_ k_ ∨ w.heap.size ≤ k_) ∧ some k_ ≠ (u5 : Value).ownBlock ∧ k_ ≠ gb202) (.slice A201_3 ((rd_T41 l0 x10_1).f3).length c201_3) ((rd_T41 l0 x10_1).f3)) := ⟨(by rw [hw]; exact (by (with_reducible repeat (first | apply Kd.V_alloc | apply Kd.V_drewN | apply Kd.V_drew)); exact Kd.V_mono (Kd.V_far (p := ⟨gb202, 4, none⟩) (Kd.V_far (p := ⟨gb202, 3, none⟩) (Kd.V_far (p := ⟨gb202, 2, none⟩) (Kd.V_far (p := ⟨gb202, 1, none⟩) (Kd.V_far (p := ⟨gb202, 0, none⟩) (Kd.V_mono HL201_3.out (fun k_ hk => (⟨hk, hk.2⟩ : _ ∧ k_ ≠ gb202))) (fun _ hk => hk.2) (.string ((rd_T41 l0 x10_1).f0))) (fun _ hk => hk.2) (.slice A201_1 ((rd_T41 l0 x10_1).f1).length c201_1)) (fun _ hk => hk.2) (.bool ((rd_T41 l0 x10_1).f2))) (fun _ hk => hk.2) (.slice A201_3 ((rd_T41 l0 x10_1).f3).length c201_3)) (fun _ hk => hk.2) (.int .i64 ((rd_T41 l0 x10_1).f4))) (fun _ hk => ⟨hk.1.1.1, ⟨hk.1.1.2, hk.1.2⟩⟩)))⟩; have n4_ : Aside0 (w10.heap[gb202]? = some (.cells #[.string ((rd_T41 l0 x10_1).f0), .slice A201_1 ((rd_T41 l0 x10_1).f1).length c201_1, .bool ((rd_T41 l0 x10_1).f2), .slice A201_3 ((rd_T41 l0 x10_1).f3).length c201_3, .int .i64 ((rd_T41 l0 x10_1).f4)] 41 (0, 0))) := ⟨(by rw [hw]; exact (by exact put5_ (bk_ BK202.out)))⟩; have n5_ : Aside0 (Below w.heap.size w w10) := ⟨(by rw [hw]; exact (bl1_ HB.out GE202.out))⟩; clear hw; clear HO_5; clear HO_8; clear HL201_1; clear HL201_3; clear BK202; clear HB; have HO_5 := n0_; have HO_8 := n1_; have HL201_1 := n2_; have HL201_3 := n3_; have BK202 := n4_; have HB := n5_; clear n0_ n1_ n2_ n3_ n4_ n5_; obtain ⟨hcz11_0, hcz11_1, hcz11_2, hcz11_3, hcz11_4, hfz11_0, hfz11_1, hfz11_2, hfz11_3, hfz11_4⟩ := cq5_ BK202.out) | ((with_reducible refine gate_builtin (b := .append) (xs := #[.tmp 18, .tmp 20]) rfl ?_); at_builtin; refine Kd.N_append k41 (w0 := w) w.heap.size rfl (.tmp 18) (.tmp 20) 23 41 (.agg #[(.string ⟨#[]⟩), (.slice none 0 0), (.bool false), (.slice none 0 0), (.int .i64 0)]) 80 rfl Tryd.underlying23 info41 rfl (by decide) (by omega) u5 x5_1 (⟨(rd_T41 l0 x10_1).f0, (rd_T41 l0 x10_1).f1, (rd_T41 l0 x10_1).f2, (rd_T41 l0 x10_1).f3, (rd_T41 l0 x10_1).f4⟩ : S41) [.string ((rd_T41 l0 x10_1).f0), .slice A201_1 ((rd_T41 l0 x10_1).f1).length c201_1, .bool ((rd_T41 l0 x10_1).f2), .slice A201_3 ((rd_T41 l0 x10_1).f3).length c201_3, .int .i64 ((rd_T41 l0 x10_1).f4)] (fun k_ => (P0_ k_ ∨ w.heap.size ≤ k_) ∧ k_ ≠ gb202) (fun k_ => ((fun k_ => (P0_ k_ ∨ w.heap.size ≤ k_) ∧ k_ ≠ gb202)) k_ ∧ some k_ ≠ (u5 : Value).ownBlock) rfl rfl ?aP (fun _ hk => hk) ?aF ?aO ?aB ?aS ?aL ?_; (case aP => exact (k41_mkF _ _ (⟨(rd_T41 l0 x10_1).f0, (rd_T41 l0 x10_1).f1, (rd_T41 l0 x10_1).f2, (rd_T41 l0 x10_1).f3, (rd_T41 l0 x10_1).f4⟩ : S41) (Kd.V_reads' (Kd.V_mono (ok' := (fun k_ => ((fun k_ => (P0_ k_ ∨ w.heap.size ≤ k_) ∧ k_ ≠ gb202)) k_ ∧ some k_ ≠ (u5 : Value).ownBlock)) (HL201_1.out) (fun k_ hk => ⟨⟨hk.1, hk.2.2⟩, hk.2.1⟩))).2.1 (Kd.V_F (Kd.V_mono (ok' := (fun k_ => ((fun k_ => (P0_ k_ ∨ w.heap.size ≤ k_) ∧ k_ ≠ gb202)) k_ ∧ some k_ ≠ (u5 : Value).ownBlock)) (HL201_1.out) (fun k_ hk => ⟨⟨hk.1, hk.2.2⟩, hk.2.1⟩))) (Kd.V_reads' (Kd.V_mono (ok' := (fun k_ => ((fun k_ => (P0_ k_ ∨ w.heap.size ≤ k_) ∧ k_ ≠ gb202)) k_ ∧ some k_ ≠ (u5 : Value).ownBlock)) (HL201_3.out) (fun k_ hk => ⟨⟨hk.1, hk.2.2⟩, hk.2.1⟩))).2.1 (Kd.V_F (Kd.V_mono (ok' := (fun k_ => ((fun k_ => (P0_ k_ ∨ w.heap.size ≤ k_) ∧ k_ ≠ gb202)) k_ ∧ some k_ ≠ (u5 : Value).ownBlock)) (HL201_3.out) (fun k_ hk => ⟨⟨hk.1, hk.2.2⟩, hk.2.1⟩))))); (case aB => exact (bl1_ HB.out GE202.out)); (case aF => exact (fun k_ hk => ⟨(.inr (Nat.le_trans (below_size (bl1_ HB.out GE202.out)) hk)), Kd.freshB (g := gb202) (o := .cells #[.string ((rd_T41 l0 x10_1).f0), .slice A201_1 ((rd_T41 l0 x10_1).f1).length c201_1, .bool ((rd_T41 l0 x10_1).f2), .slice A201_3 ((rd_T41 l0 x10_1).f3).length c201_3, .int .i64 ((rd_T41 l0 x10_1).f4)] 41 (0, 0)) (bk_ BK202.out) k_ hk⟩)); (case aO => exact (rN_ HO_5.out)); (case aS => exact (below_size (bl1_ HB.out GE202.out))); (case aL => have := LMc7.out; omega); intro v204 w12 ho hb hg hat; rw [← Ny203.out] at ho; refine cut6_ (Kd.V_afterv (ok := (fun k_ => (P0_ k_ ∨ w.heap.size ≤ k_) ∧ k_ ≠ gb202)) (by (with_reducible repeat (first | apply Kd.V_alloc | apply Kd.V_drewN | apply Kd.V_drew)); exact Kd.V_mono HO_8.out (fun _ hk => ⟨⟨hk.1, hk.2.2⟩, hk.2.1⟩)) hg hat) (Kd.V_afterv (ok := (fun k_ => (P0_ k_ ∨ w.heap.size ≤ k_) ∧ k_ ≠ gb202)) (by (with_reducible repeat (first | apply Kd.V_alloc | apply Kd.V_drewN | apply Kd.V_drew)); exact Kd.V_mono HL201_1.out (fun _ hk => ⟨⟨hk.1, hk.2.2⟩, hk.2.1⟩)) hg hat) (Kd.V_afterv (ok := (fun k_ => (P0_ k_ ∨ w.heap.size ≤ k_) ∧ k_ ≠ gb202)) (by (with_reducible repeat (first | apply Kd.V_alloc | apply Kd.V_drewN | apply Kd.V_drew)); exact Kd.V_mono HL201_3.out (fun _ hk => ⟨⟨hk.1, hk.2.2⟩, hk.2.1⟩)) hg hat) (blk_grown (g := gb202) (o := .cells #[.string ((rd_T41 l0 x10_1).f0), .slice A201_1 ((rd_T41 l0 x10_1).f1).length c201_1, .bool ((rd_T41 l0 x10_1).f2), .slice A201_3 ((rd_T41 l0 x10_1).f3).length c201_3, .int .i64 ((rd_T41 l0 x10_1).f4)] 41 (0, 0)) (bk_ BK202.out) hg (Kd.N_away HO_5.out (fun _ hk => hk.2))) (hb) (ho) ?_; clear HO_8 HL201_1 HL201_3 BK202 HB HO_5; intro HO_8 HL201_1 HL201_3 BK202 HB HO205; clear ho hb hg hat))
        go_roundg k1
        case measure => have := HK1.out; omega
        case rel => exact ⟨(y203), (wrap64 (x10_1 + 1)), sr_, H', ⟨by have := HK1.out; omega⟩, ⟨by (with_reducible repeat (first | apply Kd.N_alloc | apply Kd.N_drewN | apply Kd.N_drew)); exact Kd.N_mono HO205.out (fun _ hk => hk.1)⟩, ⟨by (with_reducible repeat (first | apply Kd.V_alloc | apply Kd.V_drewN | apply Kd.V_drew)); exact Kd.V_mono HO_8.out (fun _ hk => ⟨hk.1.1, hk.2⟩)⟩, ⟨bl1_ HB.out GE202.out⟩⟩
       ·
        rw [if_neg c7] at H
        exact absurd H (by simp)
      ·
       rw [if_neg c6] at H
       have c6b0 := beq_eq_false_iff_ne.mpr c6
       have c6b1 := bne_iff_ne.mpr c6
       have H' := Aside0.mk H
       clear H
       have p201 : 0 ≤ (x10_1 : Int) := dt_
       have q201 : x10_1 < (l0.length : Int) := dt_
       obtain ⟨ad201, A201_1, c201_1, A201_3, c201_3, e201, hx201_0, hx201_1, hx201_2, hx201_3, hx201_4, hl201_1, hi201_1, hl201_3, hi201_3⟩ := at_T41 (Kd.V_reads' HO_8.out).2.2 x10_1 p201 q201
       cases e201
       obtain ⟨ce201, hce201, hMe201, hcc201⟩ := Kd.V_get HO_8.out z41 x10_1 p201 (by first | exact q201 | exact dt_ | (have e_ := (Kd.V_reads' HO_8.out).1; omega))
       obtain ⟨ua201_1, uc201_1, ua201_3, uc201_3, rfl, ul201_1, ge201_1, ul201_3, ge201_3⟩ := k41_openF hMe201
       have hv201_1 := hcc201 1 _ rfl
       rw [add_field _ _ 1 (by omega)] at hv201_1
       replace hv201_1 := Option.some.inj (hv201_1.symm.trans hx201_1)
       injection hv201_1 with hva_ hvn_ hvc_
       rw [hva_] at ge201_1
       rw [hvc_] at ul201_1
       have HL201_1 := Aside0.mk (show Kd.V k46 46 _ w.heap.size _ _ ((rd_T41 l0 x10_1).f1) from Kd.V_mk ul201_1 ge201_1)
       clear hva_ hvn_ hvc_ ge201_1 ul201_1
       have hv201_3 := hcc201 3 _ rfl
       rw [add_field _ _ 3 (by omega)] at hv201_3
       replace hv201_3 := Option.some.inj (hv201_3.symm.trans hx201_3)
       injection hv201_3 with hva_ hvn_ hvc_
       rw [hva_] at ge201_3
       rw [hvc_] at ul201_3
       have HL201_3 := Aside0.mk (show Kd.V k41 41 _ w.heap.size _ _ ((rd_T41 l0 x10_1).f3) from Kd.V_mk ul201_3 ge201_3)
       clear hva_ hvn_ hvc_ ge201_3 ul201_3
       clear hcc201 hce201
       have HR201_1 := Aside0.mk hi201_1
       have HC201_1 := Aside0.mk hl201_1
       clear hi201_1 hl201_1
       have HR201_3 := Aside0.mk hi201_3
       have HC201_3 := Aside0.mk hl201_3
       clear hi201_3 hl201_3
       replace p201 := eq_true p201
       replace q201 := eq_true q201
       go_wp2_with (first | ((with_reducible refine gate_dst (N := 7) rfl ?_); refine bx_ (N := 7) (cs := #[.string (⟨#[]⟩ : ByteArray), .slice none 0 0, .bool false, .slice none 0 0, .int .i64 0]) (t := 41) ?_; intro gb202 hg w13 hbox hb; refine cut10_ (Kd.N_below (Kd.N_elderB (rN_ HO_5.out) gb202 (Nat.le_of_eq hg.symm)) hb) (Kd.V_below (Kd.V_elderB (rV_ HO_8.out) gb202 (Nat.le_of_eq hg.symm)) hb) (Kd.V_below (Kd.V_elderB (rV_ HL201_1.out) gb202 (Nat.le_of_eq hg.symm)) hb) (Kd.V_below (Kd.V_elderB (rV_ HL201_3.out) gb202 (Nat.le_of_eq hg.symm)) hb) (Kd.C_below (cb_ HR201_1.out) hb) (Kd.C_below (cb_ HR201_3.out) hb) (below_step (bl_ HB.out) hb) (hbox) (bz_ (w := w) hg (bl_ HB.out)) (bz_ (w := w) hg (bl_ HB.out)) ?_; clear HO_5 HO_8 HL201_1 HL201_3 HR201_1 HR201_3 HB; intro HO_5 HO_8 HL201_1 HL201_3 HR201_1 HR201_3 HB BK202 GW202 GE202; clear hb hbox hg; obtain ⟨hcz14_0, hcz14_1, hcz14_2, hcz14_3, hcz14_4, hfz14_0, hfz14_1, hfz14_2, hfz14_3, hfz14_4⟩ := cq5_ BK202.out))
       go_roundg k1
       case measure => have := HK1.out; omega
       case rel => exact ⟨(x5_1), (wrap64 (x10_1 + 1)), sr_, H', ⟨by have := HK1.out; omega⟩, ⟨by (with_reducible repeat (first | apply Kd.N_alloc | apply Kd.N_drewN | apply Kd.N_drew)); exact Kd.N_mono (Kd.N_far (p := ⟨gb202, 4, none⟩) (Kd.N_far (p := ⟨gb202, 3, none⟩) (Kd.N_far (p := ⟨gb202, 2, none⟩) (Kd.N_far (p := ⟨gb202, 1, none⟩) (Kd.N_far (p := ⟨gb202, 0, none⟩) (Kd.N_mono HO_5.out (fun k_ hk => (⟨hk, hk.2⟩ : _ ∧ k_ ≠ gb202))) (fun _ hk => hk.2) (.string ((rd_T41 l0 x10_1).f0))) (fun _ hk => hk.2) (.slice A201_1 ((rd_T41 l0 x10_1).f1).length c201_1)) (fun _ hk => hk.2) (.bool ((rd_T41 l0 x10_1).f2))) (fun _ hk => hk.2) (.slice A201_3 ((rd_T41 l0 x10_1).f3).length c201_3)) (fun _ hk => hk.2) (.int .i64 ((rd_T41 l0 x10_1).f4))) (fun _ hk => hk.1.1)⟩, ⟨by (with_reducible repeat (first | apply Kd.V_alloc | apply Kd.V_drewN | apply Kd.V_drew)); exact Kd.V_mono (Kd.V_far (p := ⟨gb202, 4, none⟩) (Kd.V_far (p := ⟨gb202, 3, none⟩) (Kd.V_far (p := ⟨gb202, 2, none⟩) (Kd.V_far (p := ⟨gb202, 1, none⟩) (Kd.V_far (p := ⟨gb202, 0, none⟩) (Kd.V_mono HO_8.out (fun k_ hk => (⟨hk, hk.2⟩ : _ ∧ k_ ≠ gb202))) (fun _ hk => hk.2) (.string ((rd_T41 l0 x10_1).f0))) (fun _ hk => hk.2) (.slice A201_1 ((rd_T41 l0 x10_1).f1).length c201_1)) (fun _ hk => hk.2) (.bool ((rd_T41 l0 x10_1).f2))) (fun _ hk => hk.2) (.slice A201_3 ((rd_T41 l0 x10_1).f3).length c201_3)) (fun _ hk => hk.2) (.int .i64 ((rd_T41 l0 x10_1).f4))) (fun _ hk => ⟨hk.1.1.1, hk.1.1.2⟩)⟩, ⟨bl1_ HB.out GE202.out⟩⟩
     ·
      rw [if_neg c5] at H
      exact absurd H (by simp)
    ·
     rw [if_neg c4] at H
     exact absurd H (by simp)
   ·
    rw [if_neg c3] at H
    have c3b0 := decide_eq_false c3
    clear c3
    obtain rfl := Option.some.inj H
    go_wp2
    go_ret
    exact ⟨_, er_, by (with_reducible repeat (first | apply Kd.N_alloc | apply Kd.N_drewN | apply Kd.N_drew)); exact HO_5.out, bl_ HB.out⟩
end Go.Proofs.YtkifdadhojbohaaDoor.Pr
