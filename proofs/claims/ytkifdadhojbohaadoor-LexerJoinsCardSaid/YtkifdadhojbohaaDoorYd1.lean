/- Joined out of the texts of this proof that bear the names GivJ PrF43 PvD: what each shows stands over it there. -/
import Derived.Test.YtkifdadhojbohaaDoorYb1
import Derived.Test.YtkifdadhojbohaaDoorYa1
import Derived.Test.YtkifdadhojbohaaDoorYh1
import Derived.Shelf.Strings.OnBuilder
import Derived.Shelf.Strings.Builder1
import Derived.Shelf.Strings.Builder2
set_option linter.unusedVariables false
set_option linter.unusedSimpArgs false
namespace Go.Proofs.YtkifdadhojbohaaDoor
open Go.RowKit Go.Proofs.YtkifdadhojbohaaDoorW.PrintWords Go.Shelf Go.Proofs
def joinRen : Go.Shelf.Ren := ⟨fun | 156 => 71 | 165 => 102 | 166 => 103 | 169 => 75 | 240 => 119 | 241 => 120 | 276 => 137 | 277 => 138 | n => n, fun | 31 => 58 | 37 => 92 | 70 => 91 | 72 => 94 | 75 => 117 | 76 => 118 | 80 => 97 | 127 => 122 | 164 => 147 | n => n, fun n => n⟩
theorem joinLays : Go.Proofs.Lays.n156 Tryd.prog joinRen := {
  mixed := by kernel_rfl
  f156 := Tryd.func71.trans (congrArg some (by kernel_rfl))
  f165 := Tryd.func102.trans (congrArg some (by kernel_rfl))
  f166 := Tryd.func103.trans (congrArg some (by kernel_rfl))
  f169 := Tryd.func75.trans (congrArg some (by kernel_rfl))
  f240 := Tryd.func119.trans (congrArg some (by kernel_rfl))
  f241 := Tryd.func120.trans (congrArg some (by kernel_rfl))
  f276 := Tryd.func137.trans (congrArg some (by kernel_rfl))
  f277 := Tryd.func138.trans (congrArg some (by kernel_rfl))
  t0 := Tryd.underlying0
  a0 := Tryd.isAgg0
  z0 := Tryd.sizeOf0
  v0 := Tryd.zeroValue0
  t3 := Tryd.underlying3
  a3 := Tryd.isAgg3
  z3 := Tryd.sizeOf3
  v3 := Tryd.zeroValue3
  t4 := Tryd.underlying4
  a4 := Tryd.isAgg4
  z4 := Tryd.sizeOf4
  v4 := Tryd.zeroValue4
  t9 := Tryd.underlying9
  a9 := Tryd.isAgg9
  z9 := Tryd.sizeOf9
  v9 := Tryd.zeroValue9
  t20 := Tryd.underlying20
  a20 := Tryd.isAgg20
  z20 := Tryd.sizeOf20
  v20 := Tryd.zeroValue20
  t31 := Tryd.underlying58
  a31 := Tryd.isAgg58
  z31 := Tryd.sizeOf58
  v31 := Tryd.zeroValue58
  t37 := Tryd.underlying92
  a37 := Tryd.isAgg92
  z37 := Tryd.sizeOf92
  v37 := Tryd.zeroValue92
  t70 := Tryd.underlying91
  a70 := Tryd.isAgg91
  z70 := Tryd.sizeOf91
  v70 := Tryd.zeroValue91
  t72 := Tryd.underlying94
  a72 := Tryd.isAgg94
  z72 := Tryd.sizeOf94
  v72 := Tryd.zeroValue94
  t75 := Tryd.underlying117
  a75 := Tryd.isAgg117
  z75 := Tryd.sizeOf117
  v75 := Tryd.zeroValue117
  t76 := Tryd.underlying118
  a76 := Tryd.isAgg118
  z76 := Tryd.sizeOf118
  v76 := Tryd.zeroValue118
  t127 := Tryd.underlying122
  a127 := Tryd.isAgg122
  z127 := Tryd.sizeOf122
  v127 := Tryd.zeroValue122
  t164 := Tryd.underlying147
  a164 := Tryd.isAgg147
  z164 := Tryd.sizeOf147
  v164 := Tryd.zeroValue147 }
theorem joinExtra : Builder.Extra Tryd.prog joinRen := {
  sizeBuilder := by kernel_rfl
  liesBuilder := by kernel_rfl
  t5 := Tryd.underlying5
  a5 := Tryd.isAgg5
  z5 := Tryd.sizeOf5
  v5 := Tryd.zeroValue5
  infoByte := by kernel_rfl
  cellsByte := by kernel_rfl
  sizeByte := by kernel_rfl
  neB5 := by decide }
def strings_Join.f (l : List ByteArray) (sep : ByteArray) : Option ByteArray :=
  if l.length ≤ 140737488355328 ∧ (Lib.join (l.map (·.data.toList)) sep.data.toList).length ≤ 140737488355328 then some ⟨(Lib.join (l.map (·.data.toList)) sep.data.toList).toArray⟩ else none
theorem strings_Join.calls (A0 : Option Addr) (c0 : Nat) (l0 : List ByteArray) (a1 : ByteArray) (r : ByteArray) (w : World) (hr0 : Kd.C Kd.string w A0 l0.length l0) (hc0 : l0.length ≤ c0) (h : strings_Join.f l0 a1 = some r) :
    Calls Tryd.prog 71 #[.slice A0 l0.length c0, .string a1] w fun e w' => e = .returned (.string r) ∧ Below w.heap.size w w' := by
  unfold strings_Join.f at h
  split at h
  · rename_i h1
    obtain ⟨hN, hlen⟩ := h1
    obtain rfl := Option.some.inj h
    cases l0 with
    | nil => exact (Any.strings_Join_none joinLays joinExtra A0 c0 a1 w).mono fun e w' ⟨he, hw⟩ => ⟨he, hw ▸ Below.refl _ _⟩
    | cons x r =>
      obtain ⟨ad, rfl, hc⟩ := hr0.2.2 (by simp)
      have hcell : ∀ (j : Nat) y, (x :: r)[j]? = some y → w.cell? (ad.add j) = some (.string y) := by
        intro j y hy
        obtain ⟨c, _, hK, hu⟩ := hc j y hy
        have hK' : c = [.string y] := hK
        have := hu 0 (.string y) (by rw [hK']; rfl)
        have e : j * (Kd.string).sz + 0 = j := by show j * 1 + 0 = j; omega
        rw [e] at this
        exact this
      obtain ⟨bk, o, sp⟩ := ad
      have h0 := hcell 0 x rfl
      have hsp : sp = none ∧ bk < w.heap.size := by
        have e : Addr.add ⟨bk, o, sp⟩ 0 = ⟨bk, o, sp⟩ := rfl
        rw [e] at h0
        unfold World.cell? at h0
        split at h0
        · rename_i hh
          refine ⟨?_, (Array.getElem?_eq_some_iff.1 hh).1⟩
          cases sp with
          | none => rfl
          | some k => simp at h0
        · cases h0
      obtain ⟨rfl, hbk⟩ := hsp
      refine Any.strings_Join joinLays joinExtra bk o c0 (x :: r) a1 w (fun j y hy => ?_) hbk hN hc0 hlen
      have := hcell j y hy
      unfold Addr.add at this
      split at this
      · rename_i hj; rw [hj]; exact this
      · exact this
  · cases h
end Go.Proofs.YtkifdadhojbohaaDoor
namespace Go.Proofs.YtkifdadhojbohaaDoor.Pr
open Go.Proofs.YtkifdadhojbohaaDoor
open Go.RowKit Go.Proofs.YtkifdadhojbohaaDoorW.PrintWords Go.Proofs.YtkifdadhojbohaaDoorW.PrintLast Go.Proofs.YtkifdadhojbohaaDoorW.PrintMore
attribute [local go_sem] max2_int min2_int max_two min_two max_three min_three max_four min_four   -- for this text's walks alone
set_option linter.unusedVariables false
set_option linter.unusedSimpArgs false
/-! ### lexer_Join: function 43 -/
mutual
def lexer_Join.l0 : Nat → List (S46) → List ByteArray → List (S46) → Int → Int → Option (ByteArray × Int)
  | 0, _, _, _, _, _ => none
  | k + 1, x0, x4, x10, x11, x12 => if x12 < x11 then (if 0 ≤ x12 then (if x12 < (x10.length : Int) then ((lexer_Spell.f k ((rd_T46 x10 x12).f0) ((rd_T46 x10 x12).f1) ((rd_T46 x10 x12).f2) ((rd_T46 x10 x12).f3)).bind fun bt519 => (if bt519.2 = 0 then (if ((rd_T46 x10 x12).f0) = 5 then (lexer_Join.j1 k x0 x4 bt519.1 x10 x11 x12 (decide (x12 < (wrap64 ((x0.length : Int) - 1)))) ((rd_T46 x10 x12).f0) ((rd_T46 x10 x12).f1) ((rd_T46 x10 x12).f2) ((rd_T46 x10 x12).f3)) else (lexer_Join.j1 k x0 x4 bt519.1 x10 x11 x12 false ((rd_T46 x10 x12).f0) ((rd_T46 x10 x12).f1) ((rd_T46 x10 x12).f2) ((rd_T46 x10 x12).f3))) else (lexer_Join.j1 k x0 x4 bt519.1 x10 x11 x12 true ((rd_T46 x10 x12).f0) ((rd_T46 x10 x12).f1) ((rd_T46 x10 x12).f2) ((rd_T46 x10 x12).f3)))) else (none)) else (none)) else ((strings_Join.f x4 (⟨#[32]⟩ : ByteArray)).bind fun t516 => (if (t516.size : Int) > 65536 then (some ((⟨#[]⟩ : ByteArray), 6)) else (some (t516, 0))))
def lexer_Join.j1 : Nat → List (S46) → List ByteArray → ByteArray → List (S46) → Int → Int → Bool → Int → ByteArray → Int → Int → Option (ByteArray × Int)
  | 0, _, _, _, _, _, _, _, _, _, _, _ => none
  | k + 1, x0, x4, x7, x10, x11, x12, x35, x519000, x519001, x519002, x519003 => if x35 = true then (some ((⟨#[]⟩ : ByteArray), 1)) else (if x519000 = 5 then (lexer_Join.l0 k x0 x4 x10 x11 (wrap64 (x12 + 1))) else (if x4.length < 8796093022208 then (lexer_Join.l0 k x0 (x4 ++ [x7]) x10 x11 (wrap64 (x12 + 1))) else (none)))
end
def lexer_Join.f (k : Nat) (l0 : List (S46)) : Option (ByteArray × Int) := lexer_Join.l0 k l0 ([] : List ByteArray) l0 (l0.length : Int) 0
theorem lexer_Join.mono_l : ∀ k, (∀ y0 y1 y2 y3 y4, LeO (lexer_Join.l0 k y0 y1 y2 y3 y4) (lexer_Join.l0 (k + 1) y0 y1 y2 y3 y4)) ∧ (∀ y0 y1 y2 y3 y4 y5 y6 y7 y8 y9 y10, LeO (lexer_Join.j1 k y0 y1 y2 y3 y4 y5 y6 y7 y8 y9 y10) (lexer_Join.j1 (k + 1) y0 y1 y2 y3 y4 y5 y6 y7 y8 y9 y10))
  | 0 => ⟨fun _ _ _ _ _ r h => by simp [lexer_Join.l0] at h, fun _ _ _ _ _ _ _ _ _ _ _ r h => by simp [lexer_Join.j1] at h⟩
  | k + 1 => by
    obtain ⟨ih0, ih1⟩ := lexer_Join.mono_l k
    refine ⟨?_, ?_⟩
    · intro y0 y1 y2 y3 y4
      unfold lexer_Join.l0
      repeat' first
      | (with_reducible exact ih0 _ _ _ _ _)
      | (with_reducible exact ih1 _ _ _ _ _ _ _ _ _ _ _)
      | (with_reducible exact lexer_Spell.mono _ _ _ _ _)
      | (with_reducible exact LeO.refl _)
      | (with_reducible exact LeO.none _)
      | (with_reducible refine LeO.ite ?_ ?_)
      | (with_reducible refine LeO.bind ?_ (fun _ => ?_))
      | exact ih0 _ _ _ _ _
      | exact ih1 _ _ _ _ _ _ _ _ _ _ _
      | exact lexer_Spell.mono _ _ _ _ _
      | exact LeO.none _
      | refine LeO.ite ?_ ?_
      | refine LeO.bind ?_ (fun _ => ?_)
    · intro y0 y1 y2 y3 y4 y5 y6 y7 y8 y9 y10
      unfold lexer_Join.j1
      repeat' first
      | (with_reducible exact ih0 _ _ _ _ _)
      | (with_reducible exact ih1 _ _ _ _ _ _ _ _ _ _ _)
      | (with_reducible exact lexer_Spell.mono _ _ _ _ _)
      | (with_reducible exact LeO.refl _)
      | (with_reducible exact LeO.none _)
      | (with_reducible refine LeO.ite ?_ ?_)
      | (with_reducible refine LeO.bind ?_ (fun _ => ?_))
      | exact ih0 _ _ _ _ _
      | exact ih1 _ _ _ _ _ _ _ _ _ _ _
      | exact lexer_Spell.mono _ _ _ _ _
      | exact LeO.none _
      | refine LeO.ite ?_ ?_
      | refine LeO.bind ?_ (fun _ => ?_)
theorem lexer_Join.mono : ∀ a0 k, LeO (lexer_Join.f k a0) (lexer_Join.f (k + 1) a0) := by
  intro a0 k
  obtain ⟨ih0, ih1⟩ := lexer_Join.mono_l k
  unfold lexer_Join.f
  repeat' first
      | (with_reducible exact ih0 _ _ _ _ _)
      | (with_reducible exact ih1 _ _ _ _ _ _ _ _ _ _ _)
      | (with_reducible exact lexer_Spell.mono _ _ _ _ _)
      | (with_reducible exact LeO.refl _)
      | (with_reducible exact LeO.none _)
      | (with_reducible refine LeO.ite ?_ ?_)
      | (with_reducible refine LeO.bind ?_ (fun _ => ?_))
      | exact ih0 _ _ _ _ _
      | exact ih1 _ _ _ _ _ _ _ _ _ _ _
      | exact lexer_Spell.mono _ _ _ _ _
      | exact LeO.none _
      | refine LeO.ite ?_ ?_
      | refine LeO.bind ?_ (fun _ => ?_)
set_option maxHeartbeats 8000000 in
set_option maxRecDepth 100000 in
theorem lexer_Join.calls (k : Nat) (A0 : Option Addr) (c0 : Nat) (l0 : List (S46)) (r1 : ByteArray) (r2 : Int) (w : World) (hG : Gl w) (hr0 : Kd.C k46 w A0 l0.length l0) (hc0 : l0.length ≤ c0) (h : lexer_Join.f k l0 = some (r1, r2)) :
    Calls Tryd.prog 43 #[.slice A0 l0.length c0] w fun e w' => e = .returned (.tuple #[.string r1, .int .i64 r2]) ∧ Below w.heap.size w w' := by
  have hu46 := Tryd.underlying46
  have HR0 := Aside0.mk hr0
  have HC0 := Aside0.mk hc0
  clear hr0 hc0
  have HB := Aside0.mk (Below.refl w.heap.size w)
  have H : (lexer_Join.l0 k l0 ([] : List ByteArray) l0 (l0.length : Int) 0) = some (r1, r2) := h
  clear h
  have H' := Aside0.mk H
  clear H
  go_enter Tryd.func43, Tryd.ntmps43
  go_wp2
  go_loopg [4, 12] k (fun kq v4 v12 w' => ∃ (x4_1 : List ByteArray) (x12_1 : Int), v12 = .int .i64 x12_1 ∧ Aside0 (lexer_Join.l0 kq l0 x4_1 l0 (l0.length : Int) x12_1 = some (r1, r2)) ∧ Aside0 (kq ≤ k) ∧ Aside0 (Kd.R Kd.string 9 w' w.heap.size (fun _ => True) v4 x4_1) ∧ Aside0 (Below w.heap.size w w'))
  case atStart => exact ⟨(([] : List ByteArray)), (0), (by first | rfl | (simp; done) | (simp [*]; done) | (simp <;> rfl)), H', ⟨Nat.le_refl _⟩, ⟨by first | exact Kd.R_nil _ _ _ _ _ | exact Kd.N_nil _ _ _ _ _ | exact Kd.V_nil _ _ _ _ _ | exact Kd.Q_nil _ _ _ _ _ | exact Kd.S_nil _ _ _ _ _⟩, ⟨bl_ HB.out⟩⟩
  case round =>
    clear H'
    obtain ⟨x4_1, x12_1, rfl, HA, HK1, HO_4, HB⟩ := hrel
    cases gk with
    | zero => exact absurd HA.out (by simp [lexer_Join.l0])
    | succ k1 =>
      have H := HA.out
      clear HA
      simp only [lexer_Join.l0] at H
      by_cases c2 : x12_1 < (l0.length : Int)
      · rw [if_pos c2] at H
        have c2b0 : decide (x12_1 < (l0.length : Int)) = true := decide_eq_true c2
        clear c2
        by_cases c3 : 0 ≤ x12_1
        · rw [if_pos c3] at H
          have c3b0 : decide (0 ≤ x12_1) = true := decide_eq_true c3
          clear c3
          by_cases c4 : x12_1 < (l0.length : Int)
          · rw [if_pos c4] at H
            have c4b0 : decide (x12_1 < (l0.length : Int)) = true := decide_eq_true c4
            clear c4
            replace H := Option.bind_eq_some_iff.mp H
            obtain ⟨⟨t519, t520⟩, A50, H⟩ := H
            replace H : (if t520 = 0 then (if ((rd_T46 l0 x12_1).f0) = 5 then (lexer_Join.j1 k1 l0 x4_1 t519 l0 (l0.length : Int) x12_1 (decide (x12_1 < (wrap64 ((l0.length : Int) - 1)))) ((rd_T46 l0 x12_1).f0) ((rd_T46 l0 x12_1).f1) ((rd_T46 l0 x12_1).f2) ((rd_T46 l0 x12_1).f3)) else (lexer_Join.j1 k1 l0 x4_1 t519 l0 (l0.length : Int) x12_1 false ((rd_T46 l0 x12_1).f0) ((rd_T46 l0 x12_1).f1) ((rd_T46 l0 x12_1).f2) ((rd_T46 l0 x12_1).f3))) else (lexer_Join.j1 k1 l0 x4_1 t519 l0 (l0.length : Int) x12_1 true ((rd_T46 l0 x12_1).f0) ((rd_T46 l0 x12_1).f1) ((rd_T46 l0 x12_1).f2) ((rd_T46 l0 x12_1).f3))) = some (r1, r2) := H
            have A5 := Aside0.mk A50
            clear A50
            have HC6 := Aside0.mk H
            clear H
            have p517 : 0 ≤ (x12_1 : Int) := of_decide_eq_true (by first | (with_reducible assumption) | assumption)
            have q517 : x12_1 < (l0.length : Int) := of_decide_eq_true (by first | (with_reducible assumption) | assumption)
            obtain ⟨ad517, e517, hx517_0, hx517_1, hx517_2, hx517_3⟩ := at_T46 HR0.out x12_1 p517 q517
            cases e517
            replace hx517_0 := (HB.out.cell (World.block_lt_of_cell? w _ hx517_0)).trans hx517_0
            replace hx517_1 := (HB.out.cell (World.block_lt_of_cell? w _ hx517_1)).trans hx517_1
            replace hx517_2 := (HB.out.cell (World.block_lt_of_cell? w _ hx517_2)).trans hx517_2
            replace hx517_3 := (HB.out.cell (World.block_lt_of_cell? w _ hx517_3)).trans hx517_3
            replace p517 := eq_true p517
            replace q517 := eq_true q517
            go_upto_region 6 with (first | ((with_reducible refine gate_dst (N := 6) rfl ?_); (try (refine gate_guard (by rfl) ?_; dsimp only)); refine box_event ?hg (N := 6) ?hd (cs := #[.int .i64 0, .string (⟨#[]⟩ : ByteArray), .int .i64 0, .int .i64 0]) (t := 46) ?hr ?_; (case hd => rfl); (case hg => rfl); (case hr => first | (go_simp; done) | (go_simp; rfl)); intro gb518 hg w7 hbox hb; have n0_ := Aside0.mk (Kd.R_below (by (with_reducible repeat (first | apply Kd.R_alloc | apply Kd.R_drewN | apply Kd.R_drew)); exact HO_4.out) hb); have n1_ := Aside0.mk (below_step (bl_ HB.out) hb); have n2_ := Aside0.mk (hbox); have n3_ := Aside0.mk ((by rw [hg]; exact (below_size (bl_ HB.out)) : w.heap.size ≤ gb518)); have n4_ := Aside0.mk ((by rw [hg]; exact (below_size (bl_ HB.out)) : w.heap.size ≤ gb518)); clear HO_4; clear HB; have HO_4 := n0_; have HB := n1_; have BK518 := n2_; have GW518 := n3_; have GE518 := n4_; clear n0_ n1_ n2_ n3_ n4_; clear hb hbox hg; have hcz8_0 : w7.cell? ⟨gb518, 0, none⟩ = some (.int .i64 0) := (blk_cell BK518.out 0).trans rfl; have hcz8_1 : w7.cell? ⟨gb518, 1, none⟩ = some (.string (⟨#[]⟩ : ByteArray)) := (blk_cell BK518.out 1).trans rfl; have hcz8_2 : w7.cell? ⟨gb518, 2, none⟩ = some (.int .i64 0) := (blk_cell BK518.out 2).trans rfl; have hcz8_3 : w7.cell? ⟨gb518, 3, none⟩ = some (.int .i64 0) := (blk_cell BK518.out 3).trans rfl; have hfz8_0 := blk_frozen BK518.out 0; have hfz8_1 := blk_frozen BK518.out 1; have hfz8_2 := blk_frozen BK518.out 2; have hfz8_3 := blk_frozen BK518.out 3) | ((with_reducible refine gate_callee (f := 35) rfl ?_); refine goesL_ (some 19) rfl rfl Tryd.func35 (by kernel_rfl) rfl #[.agg #[.int .i64 ((rd_T46 l0 x12_1).f0), .string ((rd_T46 l0 x12_1).f1), .int .i64 ((rd_T46 l0 x12_1).f2), .int .i64 ((rd_T46 l0 x12_1).f3)]] rfl (by (try simp only [List.map_toArray, List.map_cons, List.map_nil]); first | done | rfl | (simp only [List.length_drop, List.length_take]; rfl)) ?_; (with_reducible refine (lexer_Spell.calls k1 ((rd_T46 l0 x12_1).f0) ((rd_T46 l0 x12_1).f1) ((rd_T46 l0 x12_1).f2) ((rd_T46 l0 x12_1).f3) t519 t520 _ ?side1 A5.out).mono ?_); (case side1 => exact Gl.below hG (bl1_ HB.out GE518.out)); rintro e w9 ⟨rfl, hb⟩; refine ⟨_, rfl, ?_⟩; have n0_ := Aside0.mk (Kd.R_below (by (with_reducible repeat (first | apply Kd.R_alloc | apply Kd.R_drewN | apply Kd.R_drew)); exact (Kd.R_mono (Kd.R_far (p := ⟨gb518, 3, none⟩) (Kd.R_far (p := ⟨gb518, 2, none⟩) (Kd.R_far (p := ⟨gb518, 1, none⟩) (Kd.R_far (p := ⟨gb518, 0, none⟩) (Kd.R_types HO_4.out BK518.out (by decide)) (fun _ hk => hk.2) (.int .i64 ((rd_T46 l0 x12_1).f0))) (fun _ hk => hk.2) (.string ((rd_T46 l0 x12_1).f1))) (fun _ hk => hk.2) (.int .i64 ((rd_T46 l0 x12_1).f2))) (fun _ hk => hk.2) (.int .i64 ((rd_T46 l0 x12_1).f3))) (fun _ h_ => h_.1))) hb); have n1_ := Aside0.mk (blk_below (g := gb518) (o := .cells #[.int .i64 ((rd_T46 l0 x12_1).f0), .string ((rd_T46 l0 x12_1).f1), .int .i64 ((rd_T46 l0 x12_1).f2), .int .i64 ((rd_T46 l0 x12_1).f3)] 46 (0, 0)) (by (with_reducible repeat (first | refine blk_drewN ?_ _ | refine blk_drew ?_ | refine blk_alloc ?_ _)); refine blk_put (cs := #[.int .i64 ((rd_T46 l0 x12_1).f0), .string ((rd_T46 l0 x12_1).f1), .int .i64 ((rd_T46 l0 x12_1).f2), .int .i64 0]) ?_ 3 _ rfl; (with_reducible repeat (first | refine blk_drewN ?_ _ | refine blk_drew ?_ | refine blk_alloc ?_ _)); refine blk_put (cs := #[.int .i64 ((rd_T46 l0 x12_1).f0), .string ((rd_T46 l0 x12_1).f1), .int .i64 0, .int .i64 0]) ?_ 2 _ rfl; (with_reducible repeat (first | refine blk_drewN ?_ _ | refine blk_drew ?_ | refine blk_alloc ?_ _)); refine blk_put (cs := #[.int .i64 ((rd_T46 l0 x12_1).f0), .string (⟨#[]⟩ : ByteArray), .int .i64 0, .int .i64 0]) ?_ 1 _ rfl; (with_reducible repeat (first | refine blk_drewN ?_ _ | refine blk_drew ?_ | refine blk_alloc ?_ _)); refine blk_put (cs := #[.int .i64 0, .string (⟨#[]⟩ : ByteArray), .int .i64 0, .int .i64 0]) ?_ 0 _ rfl; (with_reducible repeat (first | refine blk_drewN ?_ _ | refine blk_drew ?_ | refine blk_alloc ?_ _)); exact BK518.out) hb); have n2_ := Aside0.mk (below_step (bl1_ HB.out GE518.out) hb); clear HO_4; clear BK518; clear HB; have HO_4 := n0_; have BK518 := n1_; have HB := n2_; clear n0_ n1_ n2_; (try clear hb); (try clear hb2); (try clear hk); (try clear hi)))
            (try simp only [Act.put, List.setIfInBounds_toArray, List.set_cons_zero, List.set_cons_succ])
            go_cut [35] (fun v35 wc => ∃ (kq : Nat) (x35_5 : Bool), v35 = .bool x35_5 ∧ Aside0 (lexer_Join.j1 kq l0 x4_1 t519 l0 (l0.length : Int) x12_1 x35_5 ((rd_T46 l0 x12_1).f0) ((rd_T46 l0 x12_1).f1) ((rd_T46 l0 x12_1).f2) ((rd_T46 l0 x12_1).f3) = some (r1, r2)) ∧ Aside0 (kq ≤ k1) ∧ Aside0 (Kd.R Kd.string 9 wc w.heap.size (fun _ => True) u4 x4_1) ∧ Aside0 (wc.heap[gb518]? = some (.cells #[.int .i64 ((rd_T46 l0 x12_1).f0), .string ((rd_T46 l0 x12_1).f1), .int .i64 ((rd_T46 l0 x12_1).f2), .int .i64 ((rd_T46 l0 x12_1).f3)] 46 (0, 0))) ∧ Aside0 (Below w.heap.size w wc))
            case first =>
              have H := HC6.out
              clear HC6
              by_cases c10 : t520 = 0
              · rw [if_pos c10] at H
                have c10b0 : (t520 == 0) = true := beq_iff_eq.mpr c10
                have c10b1 : (t520 != 0) = false := bne_eq_false_iff_eq.mpr c10
                clear c10
                (first | rw [c10b0] | (simp only [i64_w, i32_w]; rw [c10b0]) | skip)
                by_cases c11 : ((rd_T46 l0 x12_1).f0) = 5
                · rw [if_pos c11] at H
                  have c11b0 : (((rd_T46 l0 x12_1).f0) == 5) = true := beq_iff_eq.mpr c11
                  have c11b1 : (((rd_T46 l0 x12_1).f0) != 5) = false := bne_eq_false_iff_eq.mpr c11
                  clear c11
                  have H' := Aside0.mk H
                  clear H
                  have hcz12_0 : w9.cell? ⟨gb518, 0, none⟩ = some (.int .i64 ((rd_T46 l0 x12_1).f0)) := (blk_cell BK518.out 0).trans rfl
                  have hcz12_1 : w9.cell? ⟨gb518, 1, none⟩ = some (.string ((rd_T46 l0 x12_1).f1)) := (blk_cell BK518.out 1).trans rfl
                  have hcz12_2 : w9.cell? ⟨gb518, 2, none⟩ = some (.int .i64 ((rd_T46 l0 x12_1).f2)) := (blk_cell BK518.out 2).trans rfl
                  have hcz12_3 : w9.cell? ⟨gb518, 3, none⟩ = some (.int .i64 ((rd_T46 l0 x12_1).f3)) := (blk_cell BK518.out 3).trans rfl
                  have hfz12_0 := blk_frozen BK518.out 0
                  have hfz12_1 := blk_frozen BK518.out 1
                  have hfz12_2 := blk_frozen BK518.out 2
                  have hfz12_3 := blk_frozen BK518.out 3
                  go_wp2
                  go_meet
                  case rel => exact ⟨_, (decide (x12_1 < (wrap64 ((l0.length : Int) - 1)))), (by first | rfl | (simp; done) | (simp [*]; done) | (simp <;> rfl)), H', ⟨by have := HK1.out; first | omega | exact Nat.le_refl _⟩, ⟨by (with_reducible repeat (first | apply Kd.R_alloc | apply Kd.R_drewN | apply Kd.R_drew)); exact HO_4.out⟩, ⟨by (with_reducible repeat (first | refine blk_drewN ?_ _ | refine blk_drew ?_ | refine blk_alloc ?_ _)); exact BK518.out⟩, ⟨bl1_ HB.out GE518.out⟩⟩
                · rw [if_neg c11] at H
                  have c11b0 : (((rd_T46 l0 x12_1).f0) == 5) = false := beq_eq_false_iff_ne.mpr c11
                  have c11b1 : (((rd_T46 l0 x12_1).f0) != 5) = true := bne_iff_ne.mpr c11
                  have H' := Aside0.mk H
                  clear H
                  have hcz13_0 : w9.cell? ⟨gb518, 0, none⟩ = some (.int .i64 ((rd_T46 l0 x12_1).f0)) := (blk_cell BK518.out 0).trans rfl
                  have hcz13_1 : w9.cell? ⟨gb518, 1, none⟩ = some (.string ((rd_T46 l0 x12_1).f1)) := (blk_cell BK518.out 1).trans rfl
                  have hcz13_2 : w9.cell? ⟨gb518, 2, none⟩ = some (.int .i64 ((rd_T46 l0 x12_1).f2)) := (blk_cell BK518.out 2).trans rfl
                  have hcz13_3 : w9.cell? ⟨gb518, 3, none⟩ = some (.int .i64 ((rd_T46 l0 x12_1).f3)) := (blk_cell BK518.out 3).trans rfl
                  have hfz13_0 := blk_frozen BK518.out 0
                  have hfz13_1 := blk_frozen BK518.out 1
                  have hfz13_2 := blk_frozen BK518.out 2
                  have hfz13_3 := blk_frozen BK518.out 3
                  go_wp2
                  go_meet
                  case rel => exact ⟨_, (false), (by first | rfl | (simp; done) | (simp [*]; done) | (simp <;> rfl)), H', ⟨by have := HK1.out; first | omega | exact Nat.le_refl _⟩, ⟨by (with_reducible repeat (first | apply Kd.R_alloc | apply Kd.R_drewN | apply Kd.R_drew)); exact HO_4.out⟩, ⟨by (with_reducible repeat (first | refine blk_drewN ?_ _ | refine blk_drew ?_ | refine blk_alloc ?_ _)); exact BK518.out⟩, ⟨bl1_ HB.out GE518.out⟩⟩
              · rw [if_neg c10] at H
                have c10b0 : (t520 == 0) = false := beq_eq_false_iff_ne.mpr c10
                have c10b1 : (t520 != 0) = true := bne_iff_ne.mpr c10
                (first | rw [c10b0] | (simp only [i64_w, i32_w]; rw [c10b0]) | skip)
                have H' := Aside0.mk H
                clear H
                go_wp2
                go_meet
                case rel => exact ⟨_, (true), (by first | rfl | (simp; done) | (simp [*]; done) | (simp <;> rfl)), H', ⟨by have := HK1.out; first | omega | exact Nat.le_refl _⟩, ⟨by (with_reducible repeat (first | apply Kd.R_alloc | apply Kd.R_drewN | apply Kd.R_drew)); exact HO_4.out⟩, ⟨by (with_reducible repeat (first | refine blk_drewN ?_ _ | refine blk_drew ?_ | refine blk_alloc ?_ _)); exact BK518.out⟩, ⟨bl1_ HB.out GE518.out⟩⟩
            case rest =>
              clear HC6
              try clear c1
              try clear c2
              try clear c2b0
              try clear p2
              try clear c3
              try clear c3b0
              try clear c4
              try clear c4b0
              try clear p5
              try clear q5
              try clear hx5
              try clear p6
              try clear c10
              try clear c10b0
              try clear c10b1
              try clear c11
              try clear c11b0
              try clear c11b1
              try clear hcz12_0
              try clear hcz12_1
              try clear hcz12_2
              try clear hcz12_3
              try clear hcz13_0
              try clear hcz13_1
              try clear hcz13_2
              try clear hcz13_3
              try clear hcz8_0
              try clear hcz8_1
              try clear hcz8_2
              try clear hcz8_3
              try clear hfz12_0
              try clear hfz12_1
              try clear hfz12_2
              try clear hfz12_3
              try clear hfz13_0
              try clear hfz13_1
              try clear hfz13_2
              try clear hfz13_3
              try clear hfz8_0
              try clear hfz8_1
              try clear hfz8_2
              try clear hfz8_3
              try clear hx517_0
              try clear hx517_1
              try clear hx517_2
              try clear hx517_3
              try clear p517
              try clear q517
              obtain ⟨kq, x35_5, rfl, HA, HJ5, HO_4, BK518, HB⟩ := hcut
              cases kq with
              | zero => exact absurd HA.out (by simp [lexer_Join.j1])
              | succ kj5 =>
                have H := HA.out
                clear HA
                simp only [lexer_Join.j1] at H
                by_cases c14 : x35_5 = true
                · subst c14
                  have H1 : (some ((⟨#[]⟩ : ByteArray), 1)) = some (r1, r2) := by rw [if_pos rfl] at H; exact H
                  clear H
                  have H := H1
                  clear H1
                  simp only [Option.some.injEq, Prod.mk.injEq] at H
                  obtain ⟨rfl, rfl⟩ := H
                  go_wp2
                  go_ret2
                  exact ⟨er_, bl1_ HB.out GE518.out⟩
                · replace c14 := Bool.eq_false_iff.mpr c14
                  subst c14
                  have H1 : (if ((rd_T46 l0 x12_1).f0) = 5 then (lexer_Join.l0 kj5 l0 x4_1 l0 (l0.length : Int) (wrap64 (x12_1 + 1))) else (if x4_1.length < 8796093022208 then (lexer_Join.l0 kj5 l0 (x4_1 ++ [t519]) l0 (l0.length : Int) (wrap64 (x12_1 + 1))) else (none))) = some (r1, r2) := by rw [if_neg (show ¬ (false = true) by decide)] at H; exact H
                  clear H
                  have H := H1
                  clear H1
                  by_cases c15 : ((rd_T46 l0 x12_1).f0) = 5
                  · rw [if_pos c15] at H
                    have c15b0 : (((rd_T46 l0 x12_1).f0) == 5) = true := beq_iff_eq.mpr c15
                    have c15b1 : (((rd_T46 l0 x12_1).f0) != 5) = false := bne_eq_false_iff_eq.mpr c15
                    clear c15
                    have H' := Aside0.mk H
                    clear H
                    have hcz16_0 : wc.cell? ⟨gb518, 0, none⟩ = some (.int .i64 ((rd_T46 l0 x12_1).f0)) := (blk_cell BK518.out 0).trans rfl
                    have hcz16_1 : wc.cell? ⟨gb518, 1, none⟩ = some (.string ((rd_T46 l0 x12_1).f1)) := (blk_cell BK518.out 1).trans rfl
                    have hcz16_2 : wc.cell? ⟨gb518, 2, none⟩ = some (.int .i64 ((rd_T46 l0 x12_1).f2)) := (blk_cell BK518.out 2).trans rfl
                    have hcz16_3 : wc.cell? ⟨gb518, 3, none⟩ = some (.int .i64 ((rd_T46 l0 x12_1).f3)) := (blk_cell BK518.out 3).trans rfl
                    have hfz16_0 := blk_frozen BK518.out 0
                    have hfz16_1 := blk_frozen BK518.out 1
                    have hfz16_2 := blk_frozen BK518.out 2
                    have hfz16_3 := blk_frozen BK518.out 3
                    go_wp2
                    go_roundg kj5
                    case measure => have := HK1.out; have := HJ5.out; omega
                    case rel => exact ⟨(x4_1), (wrap64 (x12_1 + 1)), (by first | rfl | (simp; done) | (simp [*]; done) | (simp <;> rfl)), H', ⟨by have := HK1.out; have := HJ5.out; omega⟩, ⟨by (with_reducible repeat (first | apply Kd.R_alloc | apply Kd.R_drewN | apply Kd.R_drew)); exact HO_4.out⟩, ⟨bl1_ HB.out GE518.out⟩⟩
                  · rw [if_neg c15] at H
                    have c15b0 : (((rd_T46 l0 x12_1).f0) == 5) = false := beq_eq_false_iff_ne.mpr c15
                    have c15b1 : (((rd_T46 l0 x12_1).f0) != 5) = true := bne_iff_ne.mpr c15
                    by_cases c17 : x4_1.length < 8796093022208
                    · rw [if_pos c17] at H
                      have LMc17 := Aside0.mk c17
                      clear c17
                      obtain ⟨y521, hy521⟩ : ∃ y_ : List ByteArray, y_ = (x4_1 ++ [t519]) := ⟨_, rfl⟩
                      replace H : (lexer_Join.l0 kj5 l0 y521 l0 (l0.length : Int) (wrap64 (x12_1 + 1))) = some (r1, r2) := by first | (rw [hy521]; with_reducible exact H) | (have H2_ := (Option.bind_some _ _).symm.trans H; rw [hy521]; with_reducible exact H2_) | (have H2_ := (Option.bind_some _ _).symm.trans H; with_reducible exact H2_) | with_reducible exact H | (rw [hy521]; exact H) | exact H
                      have Ny521 := Aside0.mk hy521
                      clear hy521
                      have H' := Aside0.mk H
                      clear H
                      have hcz18_0 : wc.cell? ⟨gb518, 0, none⟩ = some (.int .i64 ((rd_T46 l0 x12_1).f0)) := (blk_cell BK518.out 0).trans rfl
                      have hcz18_1 : wc.cell? ⟨gb518, 1, none⟩ = some (.string ((rd_T46 l0 x12_1).f1)) := (blk_cell BK518.out 1).trans rfl
                      have hcz18_2 : wc.cell? ⟨gb518, 2, none⟩ = some (.int .i64 ((rd_T46 l0 x12_1).f2)) := (blk_cell BK518.out 2).trans rfl
                      have hcz18_3 : wc.cell? ⟨gb518, 3, none⟩ = some (.int .i64 ((rd_T46 l0 x12_1).f3)) := (blk_cell BK518.out 3).trans rfl
                      have hfz18_0 := blk_frozen BK518.out 0
                      have hfz18_1 := blk_frozen BK518.out 1
                      have hfz18_2 := blk_frozen BK518.out 2
                      have hfz18_3 := blk_frozen BK518.out 3
                      go_wp2_with (first | ((with_reducible refine gate_builtin (b := .append) (xs := #[.tmp 39, .tmp 41]) rfl ?_); (try (refine gate_guard (by rfl) ?_; dsimp only)); at_builtin; refine Kd.R_append Kd.string (w0 := w) w.heap.size rfl (.tmp 39) (.tmp 41) 58 9 (.string ⟨#[]⟩) 16 rfl Tryd.underlying58 info9 rfl (by decide) (by omega) u4 x4_1 t519 [.string t519] (fun _ => True) (fun _ => False) rfl rfl ?aP (fun _ hk => hk.elim) ?aF ?aO ?aB ?aS ?aL ?_; (case aP => exact rfl); (case aB => exact (bl1_ HB.out GE518.out)); (case aF => exact (fun _ _ => trivial)); (case aO => exact (by (with_reducible repeat (first | apply Kd.R_alloc | apply Kd.R_drewN | apply Kd.R_drew)); exact HO_4.out)); (case aS => exact (below_size (bl1_ HB.out GE518.out))); (case aL => have := LMc17.out; omega); intro v522 w19 ho hb hg hat; rw [← Ny521.out] at ho; have n0_ := Aside0.mk (blk_grown (g := gb518) (o := .cells #[.int .i64 ((rd_T46 l0 x12_1).f0), .string ((rd_T46 l0 x12_1).f1), .int .i64 ((rd_T46 l0 x12_1).f2), .int .i64 ((rd_T46 l0 x12_1).f3)] 46 (0, 0)) (bk_ BK518.out) hg (Kd.R_ne HO_4.out BK518.out (by decide))); have n1_ := Aside0.mk (hb); have n2_ := Aside0.mk (ho); clear BK518; clear HB; clear HO_4; have BK518 := n0_; have HB := n1_; have HO523 := n2_; clear n0_ n1_ n2_; clear ho hb hg hat))
                      go_roundg kj5
                      case measure => have := HK1.out; have := HJ5.out; omega
                      case rel => exact ⟨(y521), (wrap64 (x12_1 + 1)), (by first | rfl | (simp; done) | (simp [*]; done) | (simp <;> rfl)), H', ⟨by have := HK1.out; have := HJ5.out; omega⟩, ⟨by (with_reducible repeat (first | apply Kd.R_alloc | apply Kd.R_drewN | apply Kd.R_drew)); exact HO523.out⟩, ⟨bl1_ HB.out GE518.out⟩⟩
                    · rw [if_neg c17] at H
                      exact absurd H (by simp)
          · rw [if_neg c4] at H
            exact absurd H (by simp)
        · rw [if_neg c3] at H
          exact absurd H (by simp)
      · rw [if_neg c2] at H
        have c2b0 : decide (x12_1 < (l0.length : Int)) = false := decide_eq_false c2
        clear c2
        replace H := Option.bind_eq_some_iff.mp H
        obtain ⟨t516, A200, H⟩ := H
        replace H : (if (t516.size : Int) > 65536 then (some ((⟨#[]⟩ : ByteArray), 6)) else (some (t516, 0))) = some (r1, r2) := H
        have A20 := Aside0.mk A200
        clear A200
        by_cases c21 : (t516.size : Int) > 65536
        · rw [if_pos c21] at H
          have c21b0 : decide (65536 < (t516.size : Int)) = true := decide_eq_true c21
          have c21b1 : decide (65536 < t516.size) = true := decide_eq_true (by omega)
          clear c21
          simp only [Option.some.injEq, Prod.mk.injEq] at H
          obtain ⟨rfl, rfl⟩ := H
          obtain ⟨Ao22, co22, eo22⟩ := Kd.R_slice HO_4.out
          subst eo22
          go_wp2_with (first | ((with_reducible refine gate_callee (f := 71) rfl ?_); refine goesL_ (some 45) rfl rfl Tryd.func71 (by kernel_rfl) rfl #[.slice Ao22 x4_1.length co22, .string (⟨#[32]⟩ : ByteArray)] rfl (by (try simp only [List.map_toArray, List.map_cons, List.map_nil]); first | done | rfl | (simp only [List.length_drop, List.length_take]; rfl)) ?_; (with_reducible refine (strings_Join.calls _ _ x4_1 (⟨#[32]⟩ : ByteArray) t516 _ ?side1 ?side2 A20.out).mono ?_); (case side1 => repeat (first | exact (Kd.R_reads' HO_4.out).2.2 | (with_reducible refine Kd.C_alloc ?_ _) | (with_reducible refine Kd.C_drewN ?_ _) | (with_reducible refine Kd.C_drew ?_))); (case side2 => exact (Kd.R_reads' HO_4.out).2.1); rintro e w23 ⟨rfl, hb⟩; refine ⟨_, rfl, ?_⟩; have n0_ := Aside0.mk (Kd.R_below (by (with_reducible repeat (first | apply Kd.R_alloc | apply Kd.R_drewN | apply Kd.R_drew)); exact HO_4.out) hb); have n1_ := Aside0.mk (below_step (bl_ HB.out) hb); clear HO_4; clear HB; have HO_4 := n0_; have HB := n1_; clear n0_ n1_; (try clear hb); (try clear hb2); (try clear hk); (try clear hi)))
          go_ret2
          exact ⟨er_, bl_ HB.out⟩
        · rw [if_neg c21] at H
          have c21b0 : decide (65536 < (t516.size : Int)) = false := decide_eq_false c21
          have c21b1 : decide (65536 < t516.size) = false := decide_eq_false (by omega)
          clear c21
          simp only [Option.some.injEq, Prod.mk.injEq] at H
          obtain ⟨rfl, rfl⟩ := H
          obtain ⟨Ao24, co24, eo24⟩ := Kd.R_slice HO_4.out
          subst eo24
          go_wp2_with (first | ((with_reducible refine gate_callee (f := 71) rfl ?_); refine goesL_ (some 45) rfl rfl Tryd.func71 (by kernel_rfl) rfl #[.slice Ao24 x4_1.length co24, .string (⟨#[32]⟩ : ByteArray)] rfl (by (try simp only [List.map_toArray, List.map_cons, List.map_nil]); first | done | rfl | (simp only [List.length_drop, List.length_take]; rfl)) ?_; (with_reducible refine (strings_Join.calls _ _ x4_1 (⟨#[32]⟩ : ByteArray) t516 _ ?side1 ?side2 A20.out).mono ?_); (case side1 => repeat (first | exact (Kd.R_reads' HO_4.out).2.2 | (with_reducible refine Kd.C_alloc ?_ _) | (with_reducible refine Kd.C_drewN ?_ _) | (with_reducible refine Kd.C_drew ?_))); (case side2 => exact (Kd.R_reads' HO_4.out).2.1); rintro e w25 ⟨rfl, hb⟩; refine ⟨_, rfl, ?_⟩; have n0_ := Aside0.mk (Kd.R_below (by (with_reducible repeat (first | apply Kd.R_alloc | apply Kd.R_drewN | apply Kd.R_drew)); exact HO_4.out) hb); have n1_ := Aside0.mk (below_step (bl_ HB.out) hb); clear HO_4; clear HB; have HO_4 := n0_; have HB := n1_; clear n0_ n1_; (try clear hb); (try clear hb2); (try clear hk); (try clear hi)))
          go_ret2
          exact ⟨er_, bl_ HB.out⟩
end Go.Proofs.YtkifdadhojbohaaDoor.Pr
namespace Go.Proofs.YtkifdadhojbohaaDoor.Pu
open Go.RowKit Go.Proofs.YtkifdadhojbohaaDoor Go.Proofs.YtkifdadhojbohaaDoor.Pr Go.Proofs.YtkifdadhojbohaaDoorW.PrintWords Go.Proofs.YtkifdadhojbohaaDoorW.PrintLast
def okT (t : S46) : Bool := validB t.f0 (lst t.f1) t.f2
def spT (t : S46) : List UInt8 := spellS t.f0 (lst t.f1) t.f2
def badL : List S46 → Bool
  | [] => false
  | t :: r => !okT t || (t.f0 == 5 && !r.isEmpty) || badL r
def partsL (l : List S46) : List (List UInt8) := (l.filter fun t => t.f0 != 5).map spT
def finJ (ps : List (List UInt8)) : ByteArray × Int := if (Lib.join ps [32]).length > 65536 then (⟨#[]⟩, 6) else (str (Lib.join ps [32]), 0)
def joinAns (T : List S46) : ByteArray × Int := if badL T = true then (⟨#[]⟩, 1) else finJ (partsL T)
theorem joinTail_length (B : Nat) : ∀ r : List (List UInt8), (∀ x ∈ r, x.length ≤ B) → (Lib.joinTail [32] r).length ≤ r.length * (B + 1)
  | [], _ => by simp [Lib.joinTail]
  | x :: r, h => by
    have h1 := joinTail_length B r (fun y hy => h y (by simp [hy]))
    have h2 := h x (by simp)
    have e : Lib.joinTail [32] (x :: r) = [32] ++ x ++ Lib.joinTail [32] r := by simp [Lib.joinTail]
    have e2 : (x :: r).length * (B + 1) = r.length * (B + 1) + (B + 1) := by rw [List.length_cons, Nat.succ_mul]
    rw [e, e2, List.length_append, List.length_append]
    simp only [List.length_cons, List.length_nil]
    omega
theorem join_length (B : Nat) (ps : List (List UInt8)) (h : ∀ x ∈ ps, x.length ≤ B) : (Lib.join ps [32]).length ≤ ps.length * (B + 1) := by
  cases ps with
  | nil => simp [Lib.join_nil]
  | cons x r =>
    have h1 := joinTail_length B r (fun y hy => h y (by simp [hy]))
    have h2 := h x (by simp)
    rw [Lib.join_cons, List.length_append, List.length_cons, Nat.succ_mul]
    omega
theorem join_snoc (xs : List (List UInt8)) (y : List UInt8) (h : xs ≠ []) : Lib.join (xs ++ [y]) [32] = Lib.join xs [32] ++ [32] ++ y := by
  cases xs with
  | nil => exact absurd rfl h
  | cons x r =>
    rw [List.cons_append, Lib.join_cons, Lib.join_cons]
    simp [Lib.joinTail]
theorem sp_len (t : S46) (B : Nat) (h : t.f1.size ≤ B) : (spT t).length ≤ B + 12 := by
  unfold spT spellS
  (repeat' split)
  · simp [lst_length]; omega
  · have := numS_len t.f2.toNat (by omega); omega
  · simp
  · rw [lst_length]; omega
  · simp
theorem rd_at {T : List S46} {i : Nat} {t : S46} {r : List S46} (h : T.drop i = t :: r) : i < T.length ∧ rd_T46 T (i : Int) = t ∧ T.drop (i + 1) = r := by
  have hi : i < T.length := by
    apply Classical.byContradiction
    intro hn
    rw [List.drop_eq_nil_of_le (by omega)] at h
    cases h
  refine ⟨hi, ?_, ?_⟩
  · have := congrArg (·[0]?) h
    simp only [List.getElem?_drop, Nat.add_zero, List.getElem?_cons_zero] at this
    simp [rd_T46, List.getD_eq_getElem?_getD, this]
  · rw [← List.drop_drop, h]; rfl
theorem parts_mem {T : List S46} {B : Nat} (hB : ∀ t ∈ T, t.f1.size ≤ B) : ∀ x ∈ partsL T, x.length ≤ B + 12 := by
  intro x hx
  unfold partsL at hx
  obtain ⟨t, ht, rfl⟩ := List.mem_map.1 hx
  exact sp_len t B (hB t (List.mem_filter.1 ht).1)
theorem parts_len (T : List S46) : (partsL T).length ≤ T.length := by
  unfold partsL
  rw [List.length_map]
  exact List.length_filter_le _ _
theorem parts_cons (t : S46) (r : List S46) : partsL (t :: r) = if t.f0 = 5 then partsL r else spT t :: partsL r := by
  unfold partsL
  by_cases h : t.f0 = 5
  · rw [if_pos h, List.filter_cons_of_neg (by simp [h])]
  · rw [if_neg h, List.filter_cons_of_pos (by simp [h]), List.map_cons]
theorem join_f (T : List S46) (hT : T.length ≤ 3000) (hB : ∀ t ∈ T, t.f1.size ≤ 3000) : Ev (fun k => lexer_Join.f k T) (joinAns T) := by
  have loop : ∀ (d i : Nat) (l : List S46) (acc : List (List UInt8)), i ≤ T.length → T.length - i = d → T.drop i = l → acc.length ≤ i → (∀ x ∈ acc, x.length ≤ 3012) →
      Ev (fun k => lexer_Join.l0 k T (acc.map str) T T.length i) (if badL l = true then (⟨#[]⟩, 1) else finJ (acc ++ partsL l)) := by
    intro d
    induction d with
    | zero =>
      intro i l acc hi hd hl ha hm
      obtain rfl : i = T.length := by omega
      obtain rfl : l = [] := by rw [← hl]; exact List.drop_eq_nil_of_le (by omega)
      refine Ev.succ ?_
      simp only [lexer_Join.l0]
      refine Ev.ifn (by omega) ?_
      have hlen := join_length 3012 acc hm
      have hlen2 : acc.length * (3012 + 1) ≤ 3000 * 3013 := Nat.mul_le_mul (by omega) (by omega)
      have hmap : (acc.map str).map (fun s => s.data.toList) = acc := by
        rw [List.map_map]
        have : (fun s : ByteArray => s.data.toList) ∘ str = id := by funext x; rfl
        rw [this, List.map_id]
      have hj : strings_Join.f (acc.map str) (⟨#[32]⟩ : ByteArray) = some (str (Lib.join acc [32])) := by
        unfold strings_Join.f
        rw [hmap, if_pos ⟨by rw [List.length_map]; omega, by show (Lib.join acc [32]).length ≤ _; omega⟩]
        rfl
      refine Ev.val hj ?_
      have e : acc ++ partsL [] = acc := by simp [partsL]
      rw [e, size_str]
      simp only [badL, Bool.false_eq_true, if_false]
      unfold finJ
      by_cases h : (Lib.join acc [32]).length > 65536
      · rw [if_pos h]; exact Ev.ifp (by omega) (Ev.now _)
      · rw [if_neg h]; exact Ev.ifn (by omega) (Ev.now _)
    | succ d ih =>
      intro i l acc hi hd hl ha hm
      cases l with
      | nil =>
        have := congrArg List.length hl
        rw [List.length_drop] at this
        simp at this; omega
      | cons t r =>
        obtain ⟨h1, h2, h3⟩ := rd_at hl
        have ht : t.f1.size ≤ 3000 := hB t (by have : t ∈ T.drop i := by rw [hl]; simp
                                               exact List.mem_of_mem_drop this)
        refine Ev.succ ?_
        simp only [lexer_Join.l0]
        rw [h2]
        refine Ev.ifp (by omega) (Ev.ifp (by omega) (Ev.ifp (by omega) (Ev.bind (Spell_f t.f0 t.f1 (by omega) t.f2 t.f3) ?_)))
        have j1 : ∀ (s : ByteArray) (b : Bool), b = (!okT t || (t.f0 == 5 && !r.isEmpty)) → (b = false → t.f0 ≠ 5 → s = str (spT t)) → Ev (fun k => lexer_Join.j1 k T (acc.map str) s T T.length i b t.f0 t.f1 t.f2 t.f3) (if badL (t :: r) = true then (⟨#[]⟩, 1) else finJ (acc ++ partsL (t :: r))) := by
          intro s b hb hs
          refine Ev.succ ?_
          simp only [lexer_Join.j1]
          unfold badL
          rw [← hb]
          cases b with
          | true => exact Ev.ifp rfl (Ev.ret (by simp))
          | false =>
            refine Ev.ifn (by simp) ?_
            rw [wrap_nat i (by omega), Bool.false_or]
            by_cases h5 : t.f0 = 5
            · refine Ev.ifp h5 ?_
              rw [parts_cons, if_pos h5]
              exact ih (i + 1) r acc (by omega) (by omega) h3 (by omega) hm
            · refine Ev.ifn h5 (Ev.ifp (by rw [List.length_map]; omega) ?_)
              rw [parts_cons, if_neg h5, hs rfl h5]
              have := ih (i + 1) r (acc ++ [spT t]) (by omega) (by omega) h3 (by simp; omega) (by
                intro x hx
                rcases List.mem_append.1 hx with hx | hx
                · exact hm x hx
                · rw [List.mem_singleton] at hx
                  rw [hx]
                  exact sp_len t 3000 ht)
              rw [List.map_append, List.append_assoc] at this
              exact this
        have hrl : r.length = T.length - (i + 1) := by rw [← h3, List.length_drop]
        have hlt : decide ((i : Int) < (wrap64 ((T.length : Int) - 1))) = !r.isEmpty := by
          rw [wrap64_of (by omega) (by omega)]
          cases r with
          | nil => simp at hrl; simp; omega
          | cons y ys => simp at hrl; simp; omega
        rw [hlt]
        have hok : okT t = validB t.f0 (lst t.f1) t.f2 := rfl
        cases hv : validB t.f0 (lst t.f1) t.f2 with
        | false =>
          rw [if_neg (by simp)]
          refine Ev.ifn (by simp) (j1 _ true ?_ (by simp))
          rw [hok, hv]; rfl
        | true =>
          rw [if_pos rfl]
          refine Ev.ifp rfl ?_
          by_cases h5 : t.f0 = 5
          · refine Ev.ifp h5 (j1 _ _ ?_ (fun _ h => absurd h5 h))
            rw [hok, hv, h5]; rfl
          · refine Ev.ifn h5 (j1 _ false ?_ (fun _ _ => rfl))
            rw [hok, hv]; simp [h5]
  unfold lexer_Join.f
  have := loop _ 0 T [] (by omega) rfl rfl (by simp) (by simp)
  simpa [joinAns] using this
end Go.Proofs.YtkifdadhojbohaaDoor.Pu
