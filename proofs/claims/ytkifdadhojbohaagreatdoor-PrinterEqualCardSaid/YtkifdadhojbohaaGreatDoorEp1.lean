/- Joined out of the texts of this proof that bear the names GivQ PxA PwG PwH PrG22 PwF PwIs PyA PrF63 PrF36 PrF35 PvB PrF56 PrF26 PwEc PrF72 PrF45 PwKs PyB GivC PrF121 GivF GivG GivW: what each shows stands over it there. -/
import Derived.Test.YtkifdadhojbohaaGreatDoorEk1
import Derived.Test.YtkifdadhojbohaaGreatDoorEq1
import Derived.Test.YtkifdadhojbohaaGreatDoorEc1
import Derived.Test.YtkifdadhojbohaaGreatDoorEe1
import Derived.Test.YtkifdadhojbohaaGreatDoorEw1
import Derived.Test.YtkifdadhojbohaaGreatDoorEb1
import Derived.Shelf.Strings.OnBuilder
import Derived.Shelf.Strings.Builder1
import Derived.Shelf.Strings.Builder2
set_option linter.unusedVariables false
set_option linter.unusedSimpArgs false
set_option maxHeartbeats 8000000
set_option maxRecDepth 100000
namespace Go.Proofs.YtkifdadhojbohaaGreatDoor
open Go.RowKit Go.Proofs.YtkifdadhojbohaaGreatDoorW.PrintWords Go.Proofs.YtkifdadhojbohaaGreatDoorW.PrintLast Go.Shelf Go.Proofs
def kL : Go.Shelf.Ren := ⟨fun | 166 => 41 | 167 => 43 | 169 => 30 | 170 => 29 | 240 => 60 | 276 => 73 | n => n, fun | 31 => 60 | 37 => 53 | 70 => 52 | 72 => 55 | 75 => 68 | 76 => 69 | 80 => 58 | 127 => 76 | 164 => 99 | n => n, fun n => n⟩
theorem bld166 : Go.Proofs.Lays.n166 Tryz.prog kL := {
  mixed := by kernel_rfl
  f166 := Tryz.func41.trans (congrArg some (by kernel_rfl))
  f240 := Tryz.func60.trans (congrArg some (by kernel_rfl))
  f276 := Tryz.func73.trans (congrArg some (by kernel_rfl))
  t0 := Tryz.underlying0
  a0 := Tryz.isAgg0
  z0 := Tryz.sizeOf0
  v0 := Tryz.zeroValue0
  t3 := Tryz.underlying3
  a3 := Tryz.isAgg3
  z3 := Tryz.sizeOf3
  v3 := Tryz.zeroValue3
  t4 := Tryz.underlying4
  a4 := Tryz.isAgg4
  z4 := Tryz.sizeOf4
  v4 := Tryz.zeroValue4
  t9 := Tryz.underlying9
  a9 := Tryz.isAgg9
  z9 := Tryz.sizeOf9
  v9 := Tryz.zeroValue9
  t20 := Tryz.underlying20
  a20 := Tryz.isAgg20
  z20 := Tryz.sizeOf20
  v20 := Tryz.zeroValue20
  t37 := Tryz.underlying53
  a37 := Tryz.isAgg53
  z37 := Tryz.sizeOf53
  v37 := Tryz.zeroValue53
  t70 := Tryz.underlying52
  a70 := Tryz.isAgg52
  z70 := Tryz.sizeOf52
  v70 := Tryz.zeroValue52
  t72 := Tryz.underlying55
  a72 := Tryz.isAgg55
  z72 := Tryz.sizeOf55
  v72 := Tryz.zeroValue55
  t75 := Tryz.underlying68
  a75 := Tryz.isAgg68
  z75 := Tryz.sizeOf68
  v75 := Tryz.zeroValue68
  t164 := Tryz.underlying99
  a164 := Tryz.isAgg99
  z164 := Tryz.sizeOf99
  v164 := Tryz.zeroValue99 }
theorem bld169 : Go.Proofs.Lays.n169 Tryz.prog kL := {
  mixed := by kernel_rfl
  f169 := Tryz.func30.trans (congrArg some (by kernel_rfl))
  t0 := Tryz.underlying0
  a0 := Tryz.isAgg0
  z0 := Tryz.sizeOf0
  v0 := Tryz.zeroValue0
  t3 := Tryz.underlying3
  a3 := Tryz.isAgg3
  z3 := Tryz.sizeOf3
  v3 := Tryz.zeroValue3
  t9 := Tryz.underlying9
  a9 := Tryz.isAgg9
  z9 := Tryz.sizeOf9
  v9 := Tryz.zeroValue9
  t37 := Tryz.underlying53
  a37 := Tryz.isAgg53
  z37 := Tryz.sizeOf53
  v37 := Tryz.zeroValue53
  t70 := Tryz.underlying52
  a70 := Tryz.isAgg52
  z70 := Tryz.sizeOf52
  v70 := Tryz.zeroValue52
  t72 := Tryz.underlying55
  a72 := Tryz.isAgg55
  z72 := Tryz.sizeOf55
  v72 := Tryz.zeroValue55
  t127 := Tryz.underlying76
  a127 := Tryz.isAgg76
  z127 := Tryz.sizeOf76
  v127 := Tryz.zeroValue76 }
theorem bld170 : Go.Proofs.Lays.n170 Tryz.prog kL := {
  mixed := by kernel_rfl
  f170 := Tryz.func29.trans (congrArg some (by kernel_rfl))
  t0 := Tryz.underlying0
  a0 := Tryz.isAgg0
  z0 := Tryz.sizeOf0
  v0 := Tryz.zeroValue0
  t3 := Tryz.underlying3
  a3 := Tryz.isAgg3
  z3 := Tryz.sizeOf3
  v3 := Tryz.zeroValue3
  t37 := Tryz.underlying53
  a37 := Tryz.isAgg53
  z37 := Tryz.sizeOf53
  v37 := Tryz.zeroValue53
  t70 := Tryz.underlying52
  a70 := Tryz.isAgg52
  z70 := Tryz.sizeOf52
  v70 := Tryz.zeroValue52
  t72 := Tryz.underlying55
  a72 := Tryz.isAgg55
  z72 := Tryz.sizeOf55
  v72 := Tryz.zeroValue55 }
theorem jo : Builder.Extra Tryz.prog kL := {
  sizeBuilder := by kernel_rfl
  liesBuilder := by kernel_rfl
  t5 := Tryz.underlying5
  a5 := Tryz.isAgg5
  z5 := Tryz.sizeOf5
  v5 := Tryz.zeroValue5
  infoByte := by kernel_rfl
  cellsByte := by kernel_rfl
  sizeByte := by kernel_rfl
  neB5 := by decide }
def fI (b : Nat) (w w' : World) : Prop := ∀ (i : Nat) (cs : Array Value) (t : TypeId) (fr : Nat × Nat), t ≠ 5 → i ≠ b → w.heap[i]? = some (.cells cs t fr) → w'.heap[i]? = some (.cells cs t fr)
theorem fI.refl (b : Nat) (w : World) : fI b w w := fun _ _ _ _ _ _ h => h
theorem fI.trans {b : Nat} {w w1 w2 : World} (h : fI b w w1) (k : fI b w1 w2) : fI b w w2 := fun i cs t fr ht hi hw => k i cs t fr ht hi (h i cs t fr ht hi hw)
theorem fI.set {b : Nat} {w w1 : World} (h : fI b w w1) (j : Nat) (v : Value) : fI b w (w1.setCell ⟨b, j, none⟩ v) := fun i cs t fr ht hi hw => (Below.heap_setCell _ _ _ _ hi).trans (h i cs t fr ht hi hw)
theorem fI.below {b : Nat} {w w1 : World} (h : Below w.heap.size w w1) : fI b w w1 := fun _ _ _ _ _ _ hw => aZ hw h
theorem fI.grown {b B : Nat} {w w1 w2 : World} (h : fI b w w1) {v : Value} {n : Nat} {xs : List Value} (ho : w1.ownsRow B 5 1 v n xs) (hg : w1.grownBy w2 v.ownBlock) : fI b w w2 := fun i cs t fr ht hi hw =>
  have hx := h i cs t fr ht hi hw
  (hg.block i (gy hx) (fun e => Lib.ownBlock_ne ho hx ht e.symm)).trans hx
abbrev IsB (B b : Nat) (s : List UInt8) (w : World) : Prop := Lib.IsBuilder 55 5 B b (Lib.byteCells s) w
theorem cells_app (s t : List UInt8) : Lib.byteCells s ++ Lib.byteCells t = Lib.byteCells (s ++ t) := by simp [Lib.byteCells]
theorem lw (B b : Nat) (bs : List Value) (w : World) (h : Lib.IsBuilder 55 5 B b bs w) :
    Calls Tryz.prog 60 #[.pointer (some ⟨b, 0, none⟩)] w fun e w' => e = .returned (.tuple #[]) ∧ Lib.BuilderAt 55 5 B b (.pointer (some ⟨b, 0, none⟩)) bs w' ∧ Below B w w' ∧ fI b w w' := by
  rcases h with h | h
  · refine (Any.Builder_copyCheck_fresh (ρ := kL) { bld166 with } jo.toX72 b w h.cell0 h.shape h.frozen0).mono ?_
    rintro e w' ⟨rfl, rfl⟩
    exact ⟨rfl, h.used _, (Below.refl B w).setCell (p := ⟨b, 0, none⟩) h.1 _, (fI.refl b w).set 0 _⟩
  · refine (Any.Builder_copyCheck_used (ρ := kL) { bld166 with } jo.toX72 b w h.cell0).mono ?_
    rintro e w' ⟨rfl, rfl⟩
    exact ⟨rfl, h, Below.refl B _, fI.refl b _⟩
set_option maxHeartbeats 2000000 in
theorem gI (B b : Nat) (l : List UInt8) (s : ByteArray) (w : World) (h : IsB B b l w) (hlen : l.length + s.size ≤ 140737488355328) (hBw : B ≤ w.heap.size) :
    Calls Tryz.prog 41 #[.pointer (some ⟨b, 0, none⟩), .string s] w fun e w' => e = .returned (.tuple #[.int .i64 s.size, .nilIface]) ∧ IsB B b (l ++ s.data.toList) w' ∧ Below B w w' ∧ fI b w w' := by
  obtain ⟨i0, hi, hz0, hz1, hz2⟩ := info_parts jo.infoByte
  have hbl : (Lib.byteCells l).length = l.length := by simp [Lib.byteCells]
  have t94 := Tryz.underlying55; have t91 := Tryz.underlying52; have t92 := Tryz.underlying53; have t3 := Tryz.underlying3; have t9 := Tryz.underlying9; have t4 := Tryz.underlying4; have t147 := Tryz.underlying99; have t5 := Tryz.underlying5
  have u94 := run_underlying Tryz.underlying55; have u91 := run_underlying Tryz.underlying52; have u92 := run_underlying Tryz.underlying53; have u9 := run_underlying Tryz.underlying9; have u5 := run_underlying Tryz.underlying5
  have e119 : ∀ args w, (callFunc 60 args).run Tryz.prog w = .ok (.enter 60 args) w := enters_of Tryz.func60 (by kernel_rfl) rfl
  go_enter Tryz.func41, Tryz.ntmps41
  go_wp2_with (go_at_fn 60; refine (lw B b (Lib.byteCells l) _ h).mono ?_)
  rintro e w1 ⟨rfl, h1, hb1, hf1⟩
  obtain ⟨hB, v, hbk, hown, hne⟩ := h1
  have c0 : w1.cell? ⟨b, 0, none⟩ = some (.pointer (some ⟨b, 0, none⟩)) := by rw [Lib.cell_of_heap hbk]; rfl
  have c1 : w1.cell? ⟨b, 1, none⟩ = some v := by rw [Lib.cell_of_heap hbk]; rfl
  go_wp2_with (at_builtin; refine Lib.wpList_append_own_string _ rfl _ _ 53 9 rfl B 5 i0 Tryz.underlying53 Tryz.underlying9 hi hz0 hz1 hz2 _ _ _ rfl hown s rfl ?c3 ?c4 ?c5 ?_)
  case c3 => rw [hbl]; unfold maxLen; omega
  case c4 => rw [hbl]; omega
  case c5 => have := hb1.size; omega
  intro v' w2 hown' hgrow _
  have hlt : b < w1.heap.size := gy hbk
  have hb2 : w2.heap[b]? = some (.cells #[.pointer (some ⟨b, 0, none⟩), v] 55 (0, 0)) := by
    rw [hgrow.block b hlt (fun e => hne e.symm)]
    exact hbk
  have d0 : w2.cell? ⟨b, 0, none⟩ = some (.pointer (some ⟨b, 0, none⟩)) := by rw [Lib.cell_of_heap hb2]; rfl
  have d1 : w2.cell? ⟨b, 1, none⟩ = some v := by rw [Lib.cell_of_heap hb2]; rfl
  have f1 : w2.frozen? ⟨b, 1, none⟩ = false := Lib.frozen_of_heap hb2 1
  obtain ⟨ao, n', cap, rfl⟩ : ∃ ao n' cap, v' = .slice ao n' cap := by
    rcases hown'.2 with ⟨hv, _⟩ | ⟨g, cap, cur, hv, _⟩
    · exact ⟨_, _, _, hv⟩
    · exact ⟨_, _, _, hv⟩
  go_wp2
  go_ret2
  refine ⟨rfl, ?_, ?_, ?_⟩
  · refine Or.inr ?_
    rw [← cells_app]
    exact Lib.BuilderAt.put (T := 55) (e := 5) hB hb2 (bs' := Lib.byteCells l ++ Lib.strCells s) (by simpa [Lib.strCells_length, hbl] using hown') jo.neB5
  · exact (hb1.grown hgrow (by have := hb1.size; omega) (fun k hk => (hown.lt k hk).1)).setCell (p := ⟨b, 1, none⟩) hB _
  · exact (hf1.grown hown hgrow).set 1 _
set_option maxHeartbeats 2000000 in
theorem WriteByte_s (B b : Nat) (l : List UInt8) (c : UInt8) (w : World) (h : IsB B b l w) (hlen : l.length + 1 ≤ 140737488355328) (hBw : B ≤ w.heap.size) :
    Calls Tryz.prog 43 #[.pointer (some ⟨b, 0, none⟩), .int .u8 c.toNat] w fun e w' => e = .returned .nilIface ∧ IsB B b (l ++ [c]) w' ∧ Below B w w' ∧ fI b w w' := by
  obtain ⟨i0, hi, hz0, hz1, hz2⟩ := info_parts jo.infoByte
  have hbl : (Lib.byteCells l).length = l.length := by simp [Lib.byteCells]
  have t94 := Tryz.underlying55; have t91 := Tryz.underlying52; have t92 := Tryz.underlying53; have t3 := Tryz.underlying3; have t9 := Tryz.underlying9; have t4 := Tryz.underlying4; have t147 := Tryz.underlying99; have t5 := Tryz.underlying5
  have u94 := run_underlying Tryz.underlying55; have u91 := run_underlying Tryz.underlying52; have u92 := run_underlying Tryz.underlying53; have u9 := run_underlying Tryz.underlying9; have u5 := run_underlying Tryz.underlying5
  have e119 : ∀ args w, (callFunc 60 args).run Tryz.prog w = .ok (.enter 60 args) w := enters_of Tryz.func60 (by kernel_rfl) rfl
  go_enter Tryz.func43, Tryz.ntmps43
  go_wp2_with (go_at_fn 60; refine (lw B b (Lib.byteCells l) _ h).mono ?_)
  rintro e w1 ⟨rfl, h1, hb1, hf1⟩
  obtain ⟨hB, v, hbk, hown, hne⟩ := h1
  have c0 : w1.cell? ⟨b, 0, none⟩ = some (.pointer (some ⟨b, 0, none⟩)) := by rw [Lib.cell_of_heap hbk]; rfl
  have c1 : w1.cell? ⟨b, 1, none⟩ = some v := by rw [Lib.cell_of_heap hbk]; rfl
  go_wp2_with (at_builtin; refine wpList_append_own _ rfl _ _ 53 rfl B 5 i0 (.int .u8 0) 1 1 Tryz.underlying53 hi hz0 hz1 hz2 rfl (by decide) _ _ _ rfl (hown.alloc _) ⟨w1.heap.size, 0, none⟩ 1 1 [.int .u8 c.toNat] rfl rfl ?c1 ?c2 ?c3 ?c4 ?c5 ?_)
  case c1 =>
    intro j u hj
    match j, hj with
    | 0, hj => simp at hj; subst hj; simp [Addr.add]
  case c2 => intro u hu; simp at hu; subst hu; rfl
  case c3 => rw [hbl]; unfold maxLen; omega
  case c4 => rw [hbl]; omega
  case c5 => have := hb1.size; simp; omega
  intro v' w2 hown' hgrow _
  have hlt : b < w1.heap.size := gy hbk
  have hb2 : w2.heap[b]? = some (.cells #[.pointer (some ⟨b, 0, none⟩), v] 55 (0, 0)) := by
    rw [hgrow.block b (by simp; omega) (fun e => hne e.symm), Lib.alloc_old w1 _ b hlt]
    exact hbk
  have d0 : w2.cell? ⟨b, 0, none⟩ = some (.pointer (some ⟨b, 0, none⟩)) := by rw [Lib.cell_of_heap hb2]; rfl
  have d1 : w2.cell? ⟨b, 1, none⟩ = some v := by rw [Lib.cell_of_heap hb2]; rfl
  have f1 : w2.frozen? ⟨b, 1, none⟩ = false := Lib.frozen_of_heap hb2 1
  obtain ⟨g, cap, rfl⟩ : ∃ g cap, v' = .slice (some ⟨g, 0, none⟩) (l.length + 1) cap := by
    rcases hown'.2 with ⟨_, h0⟩ | ⟨g, cap, cur, hv, _⟩
    · omega
    · exact ⟨g, cap, hv⟩
  go_wp2
  go_ret
  refine ⟨rfl, ?_, ?_, ?_⟩
  · refine Or.inr ?_
    rw [← cells_app]
    exact Lib.BuilderAt.put (T := 55) (e := 5) hB hb2 (bs' := Lib.byteCells l ++ [.int .u8 c.toNat]) (by simpa [hbl] using hown') jo.neB5
  · exact ((hb1.alloc (by have := hb1.size; omega) _).grown hgrow (by have := hb1.size; simp; omega) (fun k hk => (hown.lt k hk).1)).setCell (p := ⟨b, 1, none⟩) hB _
  · exact (((hf1.trans (fI.below (dF (Below.refl _ _) _))).grown (hown.alloc _) hgrow)).set 1 _
theorem Len_s (B b : Nat) (l : List UInt8) (w : World) (h : IsB B b l w) : Calls Tryz.prog 29 #[.pointer (some ⟨b, 0, none⟩)] w fun e w' => e = .returned (.int .i64 l.length) ∧ w' = w := by
  have := Any.Builder_Len (ρ := kL) bld170 B b (Lib.byteCells l) w h
  have hbl : (Lib.byteCells l).length = l.length := by simp [Lib.byteCells]
  rw [hbl] at this
  exact this
end Go.Proofs.YtkifdadhojbohaaGreatDoor
namespace Go.Proofs.YtkifdadhojbohaaGreatDoor.Pu
open Go.RowKit Go.Proofs.YtkifdadhojbohaaGreatDoor Go.Proofs.YtkifdadhojbohaaGreatDoor.Pr Go.Proofs.YtkifdadhojbohaaGreatDoorW.PrintWords Go.Proofs.YtkifdadhojbohaaGreatDoorW.PrintLast Go.Proofs.YtkifdadhojbohaaGreatDoorW.PrintMore
theorem lexL_err : ∀ (f : Nat) (l : List UInt8) (e : Int × Nat), lexL f l = .error e → e.2 ≤ l.length := by
  intro f
  induction f with
  | zero => intro l e h; simp [lexL] at h
  | succ f ih =>
    intro l e h
    have hsk := (iV l false).length_le
    simp only [lexL] at h
    by_cases hc : (tokL (dw false l)).code = 0
    · rw [if_neg (by simp [hc])] at h
      by_cases h0 : dw false l = []
      · rw [if_pos h0] at h; cases h
      · rw [if_neg h0] at h
        obtain ⟨h1, h2⟩ := ky (dw false l) hc
        obtain ⟨h3, h4⟩ := h2 h0
        split at h
        · rename_i x hx
          have := ih _ _ hx
          cases h
          omega
        · cases h
    · rw [if_pos hc] at h
      cases h
      exact hsk
theorem lexL_skip (f : Nat) (l m : List UInt8) (h : dw false l = dw false m) : lexL (f + 1) l = lexL (f + 1) m := by
  simp only [lexL]
  rw [h]
theorem kg : ∀ (f : Nat) (l : List UInt8) (e : Int × Nat), lexL f l = .error e → e.1 ≠ 0 := by
  intro f
  induction f with
  | zero => intro l e h; simp [lexL] at h
  | succ f ih =>
    intro l e h
    simp only [lexL] at h
    by_cases hc : (tokL (dw false l)).code = 0
    · have hc2 : ¬ (tokL (dw false l)).code ≠ 0 := by simp [hc]
      rw [if_neg hc2] at h
      by_cases h0 : dw false l = []
      · rw [if_pos h0] at h; cases h
      · rw [if_neg h0] at h
        split at h
        · rename_i x hx
          have := ih _ _ hx
          cases h
          exact this
        · cases h
    · rw [if_pos (show (tokL (dw false l)).code ≠ 0 from hc)] at h
      cases h
      exact hc
abbrev endT : Tok := ⟨5, [], 0, 0⟩
theorem all_tw {α : Type} (p : α → Bool) (l : List α) : (l.takeWhile p).all p = true := List.all_takeWhile
theorem tok_valid (l : List UInt8) (hc : (tokL l).code = 0) (hne : l ≠ []) : dR (tokL l).kind (tokL l).text (tokL l).n = true ∧ (tokL l).kind ≠ 5 ∧ (dL (tokL l).kind (tokL l).text (tokL l).n).length + (tokL l).rest.length ≤ l.length + 12 := by
  cases l with
  | nil => exact absurd rfl hne
  | cons c l =>
    by_cases hr : bQ c = true
    · have e : tokL (c :: l) = clsL (c :: l.takeWhile bQ) (l.dropWhile bQ) := by
        unfold tokL; dsimp only; rw [if_pos hr]
      have hlen : (l.takeWhile bQ).length + (l.dropWhile bQ).length = l.length := by
        rw [← List.length_append, List.takeWhile_append_dropWhile]
      rw [e] at hc ⊢
      have hall : (c :: l.takeWhile bQ).all bQ = true := by rw [List.all_cons, hr, all_tw]; rfl
      unfold clsL at hc ⊢
      by_cases h2 : (numL (c :: l.takeWhile bQ)).2 = 2
      · rw [if_pos h2] at hc ⊢
        dsimp only at hc ⊢
        refine ⟨?_, by decide, ?_⟩
        · unfold dR
          rw [if_neg (by rintro ⟨_, h⟩; exact h rfl), if_pos rfl, hall, hc]; rfl
        · have : dL 1 (c :: l.takeWhile bQ) 0 = c :: l.takeWhile bQ := by simp [dL]
          rw [this, List.length_cons, List.length_cons]; omega
      · rw [if_neg h2] at hc ⊢
        dsimp only at hc ⊢
        have hn : 0 ≤ (numL (c :: l.takeWhile bQ)).1 ∧ (numL (c :: l.takeWhile bQ)).1 ≤ 1000000000 := by
          revert hc h2
          unfold numL
          dsimp only
          (repeat' split) <;> intro hc h2
          · exact absurd hc (by decide)
          · exact absurd hc (by decide)
          · exact absurd hc (by decide)
          · exact absurd hc (by decide)
          · dsimp only; omega
        refine ⟨?_, by decide, ?_⟩
        · unfold dR
          rw [if_neg (by rintro ⟨h, _⟩; exact h rfl), if_neg (by decide), if_pos rfl]
          simp [hn.1, hn.2]
        · have : dL 2 [] (numL (c :: l.takeWhile bQ)).1 = numS (numL (c :: l.takeWhile bQ)).1.toNat := by
            unfold dL
            rw [if_neg (by decide), if_pos rfl, if_pos hn]
          have hl := numS_len (numL (c :: l.takeWhile bQ)).1.toNat (by omega)
          rw [this, List.length_cons]; omega
    · by_cases h34 : c.toNat = 34
      · have e : tokL (c :: l) = gQ l := by
          unfold tokL; dsimp only; rw [if_neg hr, if_pos h34]
        rw [e] at hc ⊢
        unfold gQ at hc ⊢
        have hlen : (l.takeWhile fG).length + (l.dropWhile fG).length = l.length := by
          rw [← List.length_append, List.takeWhile_append_dropWhile]
        cases hd : l.dropWhile fG with
        | nil => rw [hd] at hc; cases hc
        | cons x r =>
          rw [hd] at hc hlen
          dsimp only at hc ⊢
          by_cases hx : x.toNat = 34
          · rw [if_pos hx] at hc ⊢
            dsimp only at hc ⊢
            refine ⟨?_, by decide, ?_⟩
            · unfold dR
              rw [if_neg (by rintro ⟨_, h⟩; exact h rfl), if_neg (by decide), if_neg (by decide), if_pos rfl, hc]; rfl
            · have : dL 3 (l.takeWhile fG) 0 = 34 :: l.takeWhile fG ++ [34] := by simp [dL]
              rw [this]
              simp only [List.length_append, List.length_cons, List.length_nil] at hlen ⊢
              omega
          · rw [if_neg hx] at hc; cases hc
      · by_cases h5 : kindOf c.toNat = 5
        · have e : tokL (c :: l) = ⟨4, [c], 0, l, 0⟩ := by
            unfold tokL; dsimp only; rw [if_neg hr, if_neg h34, if_pos h5]
          rw [e]
          dsimp only
          refine ⟨?_, by decide, ?_⟩
          · unfold dR
            rw [if_neg (by rintro ⟨_, h⟩; exact h rfl), if_neg (by decide), if_neg (by decide), if_neg (by decide), if_pos rfl]
            simp [h5]
          · have : dL 4 [c] 0 = [c] := by simp [dL]
            rw [this]; simp; omega
        · have e : tokL (c :: l) = ⟨0, [], 0, [], 2⟩ := by
            unfold tokL; dsimp only; rw [if_neg hr, if_neg h34, if_neg h5]
          rw [e] at hc; cases hc
theorem skip_blank (l : List UInt8) : dw false (32 :: l) = dw false l := by simp [dw, kindOf]
theorem lex_good : ∀ (f : Nat) (l : List UInt8) (ts : List Tok), l.length < f → lexL f l = .ok ts →
    ∃ us : List Tok, ts = us ++ [endT] ∧ (∀ u ∈ us, dR u.kind u.text u.n = true ∧ u.kind ≠ 5 ∧ 0 < u.rem ∧ u.rem ≤ l.length ∧ u.text.length ≤ l.length) ∧ us.Pairwise (fun a b => b.rem < a.rem) ∧ us.length ≤ l.length ∧
      (us.map fun u => (dL u.kind u.text u.n).length).sum ≤ l.length + 12 * us.length := by
  intro f
  induction f with
  | zero => intro l ts hf; omega
  | succ f ih =>
    intro l ts hf hx
    have hsk := (iV l false).length_le
    simp only [lexL] at hx
    by_cases hc : (tokL (dw false l)).code = 0
    · have hc2 : ¬ (tokL (dw false l)).code ≠ 0 := by simp [hc]
      rw [if_neg hc2] at hx
      by_cases h0 : dw false l = []
      · rw [if_pos h0] at hx
        cases hx
        exact ⟨[], rfl, by simp, by simp, by simp, by simp⟩
      · rw [if_neg h0] at hx
        obtain ⟨h1, h2⟩ := ky (dw false l) hc
        obtain ⟨h3, h4⟩ := h2 h0
        obtain ⟨v1, v2, v3⟩ := tok_valid (dw false l) hc h0
        generalize dw false l = m at hsk h0 hx h1 h3 h4 v1 v2 v3 hc
        cases hy : lexL f (tokL m).rest with
        | error e => rw [hy] at hx; cases hx
        | ok ws =>
          rw [hy] at hx
          cases hx
          obtain ⟨us, rfl, g1, g2, g3, g4⟩ := ih _ _ (by omega) hy
          have htl : (tokL m).text.length ≤ m.length := by
            have := jO v1 v2
            cases m with
            | nil => exact absurd rfl h0
            | cons c r =>
              unfold tokL
              dsimp only
              have hle1 : (r.takeWhile bQ).length ≤ r.length := (List.takeWhile_prefix _).length_le
              have hle2 : (r.takeWhile fG).length ≤ r.length := (List.takeWhile_prefix _).length_le
              (repeat' split)
              · unfold clsL; split <;> simp <;> omega
              · unfold gQ
                split
                · simp
                · split <;> simp <;> omega
              · simp
              · simp
          refine ⟨⟨(tokL m).kind, (tokL m).text, (tokL m).n, m.length⟩ :: us, rfl, ?_, ?_, ?_, ?_⟩
          · intro u hu
            rcases List.mem_cons.1 hu with rfl | hu
            · exact ⟨v1, v2, List.length_pos_iff.2 h0, hsk, by dsimp only; omega⟩
            · obtain ⟨a1, a2, a3, a4, a5⟩ := g1 u hu
              exact ⟨a1, a2, a3, by omega, by omega⟩
          · refine List.pairwise_cons.2 ⟨fun b hb => ?_, g2⟩
            have := (g1 b hb).2.2.2.1
            dsimp only; omega
          · simp only [List.length_cons]; omega
          · simp only [List.map_cons, List.sum_cons, List.length_cons]
            omega
    · rw [if_pos (show (tokL (dw false l)).code ≠ 0 from hc)] at hx
      cases hx
theorem tw_app {α : Type} (p : α → Bool) (l m : List α) (h : l.dropWhile p ≠ [] ∨ ∀ c x, m = c :: x → p c = false) : (l ++ m).takeWhile p = l.takeWhile p ∧ (l ++ m).dropWhile p = l.dropWhile p ++ m := by
  induction l with
  | nil =>
    rcases h with h | h
    · exact absurd rfl h
    · cases m with
      | nil => exact ⟨rfl, rfl⟩
      | cons c x => have := h c x rfl; simp [this]
  | cons a l ih =>
    cases ha : p a with
    | true =>
      have := ih (by simpa [List.dropWhile_cons, ha] using h)
      simp [List.takeWhile_cons, List.dropWhile_cons, ha, this.1, this.2]
    | false => simp [List.takeWhile_cons, List.dropWhile_cons, ha]
theorem cls_eq (t r r' : List UInt8) : clsL t r' = ⟨(clsL t r).kind, (clsL t r).text, (clsL t r).n, r', (clsL t r).code⟩ := by
  unfold clsL
  split <;> rfl
theorem cls_rest (t r : List UInt8) : (clsL t r).rest = r ∧ ((clsL t r).kind = 1 ∨ (clsL t r).kind = 2) := by
  unfold clsL
  split <;> simp
theorem text_nil (l : List UInt8) (hd : l.dropWhile fG = []) : gQ l = ⟨0, [], 0, [], 2⟩ := by
  unfold gQ; rw [hd]
theorem kW (l : List UInt8) (x : UInt8) (y : List UInt8) (hd : l.dropWhile fG = x :: y) : gQ l = if x.toNat = 34 then ⟨3, l.takeWhile fG, 0, y, iU (l.takeWhile fG)⟩ else ⟨0, [], 0, [], 2⟩ := by
  unfold gQ; rw [hd]
theorem tok_app (l m : List UInt8) (hl : l ≠ []) (hc : (tokL l).code = 0) (hm : (tokL l).kind = 3 ∨ (tokL l).kind = 4 ∨ ∀ c x, m = c :: x → bQ c = false) :
    tokL (l ++ m) = ⟨(tokL l).kind, (tokL l).text, (tokL l).n, (tokL l).rest ++ m, 0⟩ := by
  cases l with
  | nil => exact absurd rfl hl
  | cons c l =>
    by_cases hrun : bQ c = true
    · have e1 : ∀ x, tokL (c :: x) = clsL (c :: x.takeWhile bQ) (x.dropWhile bQ) := by
        intro x; unfold tokL; dsimp only; rw [if_pos hrun]
      rw [List.cons_append, e1, e1]
      rw [e1] at hc hm
      obtain ⟨r1, r2⟩ := cls_rest (c :: l.takeWhile bQ) (l.dropWhile bQ)
      have hm' : ∀ c x, m = c :: x → bQ c = false := by
        rcases hm with h | h | h
        · omega
        · omega
        · exact h
      obtain ⟨t1, t2⟩ := tw_app bQ l m (.inr hm')
      rw [t1, t2, cls_eq _ (l.dropWhile bQ), hc, r1]
    · by_cases h34 : c.toNat = 34
      · have e1 : ∀ x, tokL (c :: x) = gQ x := by
          intro x; unfold tokL; dsimp only; rw [if_neg hrun, if_pos h34]
        rw [List.cons_append, e1, e1]
        rw [e1] at hc
        cases hd : l.dropWhile fG with
        | nil => rw [text_nil l hd] at hc; cases hc
        | cons x y =>
          obtain ⟨t1, t2⟩ := tw_app fG l m (.inl (by rw [hd]; simp))
          rw [hd] at t2
          rw [kW _ _ _ t2, kW l x y hd, t1]
          rw [kW l x y hd] at hc
          by_cases hx : x.toNat = 34
          · rw [if_pos hx] at hc
            rw [if_pos hx, if_pos hx]
            dsimp only at hc ⊢
            rw [hc]
            rfl
          · rw [if_neg hx] at hc; cases hc
      · by_cases h5 : kindOf c.toNat = 5
        · have e : ∀ x, tokL (c :: x) = ⟨4, [c], 0, x, 0⟩ := by
            intro m; unfold tokL; dsimp only; rw [if_neg hrun, if_neg h34, if_pos h5]
          rw [List.cons_append, e, e]
        · have e : tokL (c :: l) = ⟨0, [], 0, [], 2⟩ := by
            unfold tokL; dsimp only; rw [if_neg hrun, if_neg h34, if_neg h5]
          rw [e] at hc; cases hc
theorem sk0 (c : UInt8) (l : List UInt8) : dw false (c :: l) = if c.toNat = 35 then dw true l else if kindOf c.toNat = 1 then dw false l else c :: l := by rw [dw]
def Tok.up (d : Nat) (t : Tok) : Tok := ⟨t.kind, t.text, t.n, t.rem + d⟩
abbrev KTN := Int × List UInt8 × Int
def Tok.key (t : Tok) : KTN := (t.kind, t.text, t.n)
def gapB (g : List UInt8) : Prop := ∀ x, dw false (g ++ x) = dw false x
def k3 (t : S46) : KTN := (t.f0, lst t.f1, t.f2)
theorem k3_eq {s t : S46} (h : k3 s = k3 t) : s.f0 = t.f0 ∧ s.f1 = t.f1 ∧ s.f2 = t.f2 := by
  unfold k3 at h
  injection h with h0 h
  injection h with h1 h2
  exact ⟨h0, ic h1, h2⟩
theorem k3_key {s t : S46} (h : k3 s = k3 t) : keyT false s = keyT false t := by
  obtain ⟨a, b, c⟩ := k3_eq h
  unfold keyT
  rw [a, b, c]
  rfl
theorem k3_isS {s t : S46} (h : k3 s = k3 t) (c : UInt8) : isS s c = isS t c := by
  obtain ⟨a, b, _⟩ := k3_eq h
  unfold isS
  rw [a, b]
theorem k3_isA {s t : S46} (h : k3 s = k3 t) : isA s = isA t := by
  unfold isA
  rw [k3_isS h, k3_isS h, k3_isS h, (k3_eq h).1]
theorem map_key {ats bs : List S46} (h : ats.map k3 = bs.map k3) : ats.map (keyT false) = bs.map (keyT false) := by
  induction ats generalizing bs with
  | nil => cases bs with
    | nil => rfl
    | cons b bs => cases h
  | cons a ats ih => cases bs with
    | nil => cases h
    | cons b bs =>
      injection h with h1 h2
      rw [List.map_cons, List.map_cons, ih h2, k3_key h1]
theorem map_isA {ats bs : List S46} (h : ats.map k3 = bs.map k3) (hb : ∀ b ∈ bs, isA b = true) : ∀ a ∈ ats, isA a = true := by
  induction ats generalizing bs with
  | nil => intro a ha; cases ha
  | cons a ats ih => cases bs with
    | nil => cases h
    | cons b bs =>
      injection h with h1 h2
      intro x hx
      rcases List.mem_cons.1 hx with rfl | hx
      · rw [k3_isA h1]; exact hb b (by simp)
      · exact ih h2 (fun y hy => hb y (by simp [hy])) x hx
theorem iF {ts : List S46} {x : KTN} {ys : List KTN} (h : ts.map k3 = x :: ys) : ∃ t r, ts = t :: r ∧ k3 t = x ∧ r.map k3 = ys := by
  cases ts with
  | nil => cases h
  | cons t r => injection h with a b; exact ⟨t, r, rfl, a, b⟩
theorem jl : ∀ {ts : List S46} {xs ys : List KTN}, ts.map k3 = xs ++ ys → ∃ a b, ts = a ++ b ∧ a.map k3 = xs ∧ b.map k3 = ys
  | ts, [], ys, h => ⟨[], ts, rfl, rfl, h⟩
  | ts, x :: xs, ys, h => by
    obtain ⟨t, r, rfl, h1, h2⟩ := iF h
    obtain ⟨a, b, rfl, h3, h4⟩ := jl h2
    exact ⟨t :: a, b, rfl, by rw [List.map_cons, h1, h3], h4⟩
theorem sg_isS (c d : UInt8) : isS (sgT c) d = (c == d) := by
  unfold isS sgT lst
  simp
theorem RL.keys {o : Nat} {ts : List S46} {x : Ans} (h : RL o ts x) : (∀ t ∈ ts, dR t.f0 (lst t.f1) t.f2 = true) → ∀ cs r, x = .ok (cs, r) → ts.map k3 = (dD cs).map k3 ++ r.map k3 := by
  have hz : ∀ t : S46, dR t.f0 (lst t.f1) t.f2 = true → t.f0 ≠ 2 → t.f2 = 0 := by
    intro t hv h1
    by_cases hn : t.f2 = 0
    · exact hn
    · unfold dR at hv
      rw [if_pos ⟨h1, hn⟩] at hv
      cases hv
  have hw : ∀ t : S46, dR t.f0 (lst t.f1) t.f2 = true → t.f0 = 1 → k3 t = k3 ⟨1, t.f1, 0, 0⟩ := by
    intro t hv h1
    unfold k3
    rw [hz t hv (by omega), h1]
  have hs : ∀ (t : S46) (c : UInt8), dR t.f0 (lst t.f1) t.f2 = true → isS t c = true → k3 t = k3 (sgT c) := by
    intro t c hv h1
    have h0 := isS_f0 h1
    unfold isS at h1
    simp only [Bool.and_eq_true, beq_iff_eq] at h1
    unfold k3 sgT
    rw [hz t hv (by omega), h0, h1.2]
    rfl
  induction h with
  | stop o t r => intro hv cs r' hx; cases hx; simp [dD]
  | bad => intro _ cs r hx; cases hx
  | semi o t ats u r x h1 h2 h3 hr ih =>
    intro hv cs q hx
    cases x with
    | error e => cases hx
    | ok y =>
      cases hx
      have g := ih (fun a ha => hv a (by simp [ha])) _ _ rfl
      rw [dD]
      simp only [List.map_cons, List.map_append, g, hw t (hv t (by simp)) h1, hs u 59 (hv u (by simp)) h3]
      simp
  | syn => intro _ cs r hx; cases hx
  | lim => intro _ cs r hx; cases hx
  | blk o t ats u r ks b q x ho h1 h2 h3 hk hr ihk ih =>
    intro hv cs q' hx
    cases x with
    | error e => cases hx
    | ok y =>
      cases hx
      have g := ihk (fun a ha => hv a (by simp [ha])) _ _ rfl
      obtain ⟨b', q0, pk, f1, f2, f3, f4, f5⟩ := hk.frame _ _ rfl
      cases f1
      have hq := ih (fun a ha => hv a (by rw [f4]; simp [ha])) _ _ rfl
      have hb : isS b 125 = true := by simpa [iI] using f3
      rw [dD]
      simp only [List.map_cons, List.map_append, g, hq, hw t (hv t (by simp)) h1, hs u 123 (hv u (by simp)) h3, hs b 125 (hv b (by rw [f4]; simp)) hb]
      simp
  | blkF => intro _ cs r hx; cases hx
theorem read_toks : ∀ l, gZ l = true → szL l ≤ 900000 → ∀ o, depL l + o ≤ 8 → ∀ ts, ts.map k3 = (dD l).map k3 → ∀ r x, RL o r x → ∃ cs, SmL false cs l ∧ RL o (ts ++ r) (pre cs x) := by
  refine indL ?_ ?_
  · intro _ _ o _ ts hts r x hx
    have : ts = [] := by
      rw [dD] at hts
      cases ts with
      | nil => rfl
      | cons t r => cases hts
    subst this
    refine ⟨[], SmL.nil, ?_⟩
    cases x <;> simpa [pre] using hx
  · intro c l h1 h2 hf hsz o ho ts hts r x hx
    rw [gZ] at hf
    simp only [Bool.and_eq_true] at hf
    obtain ⟨⟨⟨⟨f1, f2⟩, f3⟩, f4⟩, f5⟩ := hf
    rw [szL] at hsz
    rw [depL] at ho
    rw [dD] at hts
    simp only [List.map_append, List.map_cons, List.append_assoc, List.cons_append] at hts
    obtain ⟨t, ts1, rfl, e1, hts⟩ := iF hts
    obtain ⟨ats, ts2, rfl, e2, hts⟩ := jl hts
    obtain ⟨mid, ts3, rfl, e3, e4⟩ := jl hts
    have hall : ∀ a ∈ c.f1, isA a = true := by
      intro a ha
      have := List.all_eq_true.1 f3 a ha
      unfold okA at this
      rw [Bool.and_eq_true] at this
      exact this.1
    have hA := map_isA e2 hall
    have ht1 : t.f0 = 1 := (k3_eq e1).1
    have ht2 : t.f1 = c.f0 := (k3_eq e1).2.1
    have hl1 : ats.length = c.f1.length := by simpa using congrArg List.length e2
    have hl := je l
    obtain ⟨cs, g1, g2⟩ := h2 f5 (by omega) o (by omega) ts3 e4 r x hx
    have hcl := g1.length
    by_cases hb : c.f2 = true
    · rw [if_pos hb] at e3 ho
      simp only [List.map_append, List.map_cons, List.append_assoc, List.cons_append] at e3
      obtain ⟨u, m1, rfl, e5, e6⟩ := iF e3
      obtain ⟨kt, m2, rfl, e7, e8⟩ := jl e6
      obtain ⟨b, m3, rfl, e9, e10⟩ := iF e8
      have : m3 = [] := by cases m3 with
        | nil => rfl
        | cons _ _ => cases e10
      subst this
      have hu : isS u 123 = true := by rw [k3_isS e5, sg_isS]; rfl
      have hbb : isS b 125 = true := by rw [k3_isS e9, sg_isS]; rfl
      have hb1 : b.f0 ≠ 1 := by rw [isS_f0 hbb]; decide
      obtain ⟨ks, k1, k2⟩ := h1 f4 (by omega) (o + 1) (by omega) kt e7 (b :: (ts3 ++ r)) _ (RL.stop (o + 1) b (ts3 ++ r) hb1 (by simpa [iI] using hbb))
      have k2' : RL (o + 1) (kt ++ b :: (ts3 ++ r)) (.ok (ks, b :: (ts3 ++ r))) := by simpa [pre] using k2
      refine ⟨⟨t.f1, ats, true, ks, t.f3⟩ :: cs, SmL.cons _ _ _ _ ht2 hb.symm (map_key e2) (by simp) (by dsimp only; omega) (by omega) k1 g1, ?_⟩
      have := RL.blk o t ats u _ ks b (ts3 ++ r) _ (by omega) ht1 hA hu k2' g2
      have e : t :: (ats ++ (u :: (kt ++ [b]) ++ ts3)) ++ r = t :: (ats ++ u :: (kt ++ b :: (ts3 ++ r))) := by simp
      rw [e]
      cases x <;> simpa [pre, push] using this
    · rw [if_neg hb] at e3
      obtain ⟨u, m1, rfl, e5, e6⟩ := iF e3
      have : m1 = [] := by cases m1 with
        | nil => rfl
        | cons _ _ => cases e6
      subst this
      have hu : isS u 59 = true := by rw [k3_isS e5, sg_isS]; rfl
      have hk : c.f3 = [] := by
        simpa [hb] using f2
      refine ⟨⟨t.f1, ats, false, [], t.f3⟩ :: cs, SmL.cons _ _ _ _ ht2 (by simpa using hb) (map_key e2) (by simp) (by dsimp only; omega) (by omega) (by rw [hk]; exact SmL.nil) g1, ?_⟩
      have := RL.semi o t ats u _ _ ht1 hA hu g2
      have e : t :: (ats ++ ([u] ++ ts3)) ++ r = t :: (ats ++ u :: (ts3 ++ r)) := by simp
      rw [e]
      cases x <;> simpa [pre, push] using this
theorem RL.before {o : Nat} {ts : List S46} {x : Ans} (h : RL o ts x) : ∀ cs r, x = .ok (cs, r) → ∀ (w : Nat) (c : S41), cs[w]? = some c → ∃ p t q, ts = p ++ t :: q ∧ t.f0 = 1 ∧ t.f3 = c.f4 ∧ ∀ r' x', RL o r' x' → RL o (p ++ r') (pre (cs.take w) x') := by
  induction h with
  | stop => intro cs r hx w c hw; cases hx; simp at hw
  | bad => intro cs r hx; cases hx
  | semi o t ats u r x h1 h2 h3 hr ih =>
    intro cs q hx w c hw
    cases x with
    | error e => cases hx
    | ok y =>
      cases hx
      cases w with
      | zero =>
        simp at hw
        subst hw
        exact ⟨[], t, _, rfl, h1, rfl, fun r' x' hr' => by cases x' <;> simpa [pre] using hr'⟩
      | succ w =>
        obtain ⟨p, t', q', e, g1, g2, g3⟩ := ih _ _ rfl w c (by simpa using hw)
        refine ⟨t :: (ats ++ u :: p), t', q', by rw [e]; simp, g1, g2, fun r' x' hr' => ?_⟩
        have := RL.semi o t ats u _ _ h1 h2 h3 (g3 r' x' hr')
        simp only [List.cons_append, List.append_assoc]
        cases x' <;> simpa [pre, push] using this
  | syn => intro cs r hx; cases hx
  | lim => intro cs r hx; cases hx
  | blk o t ats u r ks b q x ho h1 h2 h3 hk hr ihk ih =>
    intro cs q' hx w c hw
    cases x with
    | error e => cases hx
    | ok y =>
      cases hx
      cases w with
      | zero =>
        simp at hw
        subst hw
        exact ⟨[], t, _, rfl, h1, rfl, fun r' x' hr' => by cases x' <;> simpa [pre] using hr'⟩
      | succ w =>
        obtain ⟨p, t', q2, e, g1, g2, g3⟩ := ih _ _ rfl w c (by simpa using hw)
        obtain ⟨b', q0, pk, f1, f2, f3, f4, f5⟩ := hk.frame _ _ rfl
        cases f1
        refine ⟨t :: (ats ++ u :: (pk ++ b :: p)), t', q2, by rw [f4, e]; simp, g1, g2, fun r' x' hr' => ?_⟩
        have hs := f5 (b :: (p ++ r')) _ (RL.stop (o + 1) b (p ++ r') f2 f3)
        have hs' : RL (o + 1) (pk ++ b :: (p ++ r')) (.ok (ks, b :: (p ++ r'))) := by simpa [pre] using hs
        have := RL.blk o t ats u _ ks b (p ++ r') _ ho h1 h2 h3 hs' (g3 r' x' hr')
        simp only [List.cons_append, List.append_assoc]
        cases x' <;> simpa [pre, push] using this
  | blkF => intro cs r hx; cases hx
end Go.Proofs.YtkifdadhojbohaaGreatDoor.Pu
namespace Go.Proofs.YtkifdadhojbohaaGreatDoor.Pr
open Go.Proofs.YtkifdadhojbohaaGreatDoor
open Go.RowKit Go.Proofs.YtkifdadhojbohaaGreatDoorW.PrintWords Go.Proofs.YtkifdadhojbohaaGreatDoorW.PrintLast Go.Proofs.YtkifdadhojbohaaGreatDoorW.PrintMore
def bV.f (k : Nat) (a0 : ByteArray) : Option ((List (S41)) × Int × Int) := (cu.f k a0).bind fun b => (if b.2.1 = 0 then ((dI.f k b.1 0 0 0 0).bind fun e => (if e.2.2.1 = 0 then (some (e.1, 0, 0)) else (some (([] : List (S41)), e.2.2.1, e.2.2.2)))) else (some (([] : List (S41)), b.2.1, b.2.2)))
theorem bV.mono : ∀ a0 k, LeO (bV.f k a0) (bV.f (k + 1) a0) := by
 intro a0 k
 unfold bV.f
 repeat' first
  | exact cu.mono _ _
  | exact dI.mono _ _ _ _ _ _
  | exact LeO.refl _
  | exact LeO.none _
  | refine LeO.ite ?_ ?_
  | refine LeO.bind ?_ (fun _ => ?_)
theorem bV.calls (k : Nat) (a0 : ByteArray) (r1 : List (S41)) (r2 : Int) (r3 : Int) (w : World) (h : bV.f k a0 = some (r1, r2, r3)) :
  Calls Tryz.prog 37 #[.string a0] w fun e w' => ∃ v0_ : Value, e = .returned (.tuple #[v0_, .agg #[.int .i64 r2, .int .i64 r3]]) ∧ Kd.R k41 25 w' w.heap.size (fun _ => True) v0_ r1 ∧ Below w.heap.size w w' := by
 have hu26 := Tryz.underlying40; have hu41 := Tryz.underlying25; have hu69 := Tryz.underlying82; have HB := af.mk (Below.refl w.heap.size w); have H : ((cu.f k a0).bind fun b => (if b.2.1 = 0 then ((dI.f k b.1 0 0 0 0).bind fun e => (if e.2.2.1 = 0 then (some (e.1, 0, 0)) else (some (([] : List (S41)), e.2.2.1, e.2.2.2)))) else (some (([] : List (S41)), b.2.1, b.2.2)))) = some (r1, r2, r3) := h; clear h; replace H := bn_ H; obtain ⟨⟨t1, t2, t3⟩, A2, H⟩ := H; (try dsimp only at H); replace H := (sp_ H).symm; obtain ⟨c3, H⟩ | ⟨c3, H⟩ := H
 ·
  have c3b0 := beq_eq_false_iff_ne.mpr c3; have c3b1 := bne_iff_ne.mpr c3; simp only [Option.some.injEq, Prod.mk.injEq] at H; obtain ⟨rfl, rfl, rfl⟩ := H
  go_enter Tryz.func37, Tryz.ntmps37
  try go_wp2_with (first | ((with_reducible refine aA (N := 3) rfl ?_); refine bx_ (N := 3) (cs := #[.int .i64 0, .int .i64 0]) (t := 40) ?_; intro gb3 hg w4 hbox hb; have n0_ := af.mk (ah (bl_ HB.1) hb); have n1_ := af.mk (hbox); have n3_ := af.mk (bz_ (w := w) hg (bl_ HB.1)); clear HB; have HB := n0_; have BK3 := n1_; have GE3 := n3_; clear n0_ n1_ n3_; clear hb hbox hg) | ((with_reducible refine aj (f := 52) rfl ?_); refine gk_ (some 10) Tryz.func52 (cu.calls k a0 t1 t2 t3 _ A2.1) ?_; rintro e w5 ⟨v1, rfl, ho0, hb⟩; refine ⟨_, rfl, ?_⟩; refine fu (Kd.dB ho0 (bH (bl1_ HB.1 GE3.1))) (bb_ BK3.1 hb) (ah (bl1_ HB.1 GE3.1) hb) ?_; clear BK3 HB; intro HO1 BK3 HB; (try clear hb); (try clear ho0)) | ((with_reducible refine aA (N := 5) rfl ?_); refine bx_ (N := 5) (cs := #[.int .i64 0, .int .i64 0]) (t := 40) ?_; intro gb5 hg w55 hbox hb; have n0_ := af.mk (Kd.aW (rR_ HO1.1) hb); have n1_ := af.mk (bb_ BK3.1 hb); have n2_ := af.mk (ah (bl1_ HB.1 GE3.1) hb); have n3_ := af.mk (hbox); have n5_ := af.mk (bz_ (w := w) hg (bl1_ HB.1 GE3.1)); have n6_ := af.mk (nl_ hg BK3.1); have n7_ := af.mk (ng_ hg BK3.1); clear HO1; clear BK3; clear HB; have HO1 := n0_; have BK3 := n1_; have HB := n2_; have BK5 := n3_; have GE5 := n5_; have NB3_5 := n6_; have NB5_3 := n7_; clear n0_ n1_ n2_ n3_ n5_ n6_ n7_; clear hb hbox hg; have hnb56 := NB5_3.1; have hnc56 := NB3_5.1; obtain ⟨hcz57_0, hcz57_1, hfz57_0, hfz57_1⟩ := cq2_ BK5.1))
  have n0_ : af (Kd.R k46 50 ((w55.setCell ⟨gb5, 0, none⟩ (.int .i64 t2)).setCell ⟨gb5, 1, none⟩ (.int .i64 t3)) w.heap.size (fun _ => True) v1 t1) := ⟨rR_ (Kd.aQ (rf2_ gb5 (Kd.bu HO1.1 BK5.1 (by decide))) (fun _ hk => trivial))⟩; have n1_ : af (((w55.setCell ⟨gb5, 0, none⟩ (.int .i64 t2)).setCell ⟨gb5, 1, none⟩ (.int .i64 t3)).heap[gb3]? = some (.cells #[.int .i64 0, .int .i64 0] 40 (0, 0))) := ⟨by refine dC ?_ NB3_5.1; exact BK3.1⟩; have n2_ : af (((w55.setCell ⟨gb5, 0, none⟩ (.int .i64 t2)).setCell ⟨gb5, 1, none⟩ (.int .i64 t3)).heap[gb5]? = some (.cells #[.int .i64 t2, .int .i64 t3] 40 (0, 0))) := ⟨by refine aU (cs := #[.int .i64 t2, .int .i64 0]) ?_ 1 _ rfl; refine aU (cs := #[.int .i64 0, .int .i64 0]) ?_ 0 _ rfl; exact BK5.1⟩; have n3_ : af (Below w.heap.size w ((w55.setCell ⟨gb5, 0, none⟩ (.int .i64 t2)).setCell ⟨gb5, 1, none⟩ (.int .i64 t3))) := ⟨by repeat (first | (with_reducible first | exact HB.1 | refine bK ?_ GE3.1 | refine bK ?_ GE5.1) | exact HB.1)⟩; clear HO1 BK3 BK5 HB; (try clear hcz57_0 hcz57_1 hfz57_0 hfz57_1); generalize ((w55.setCell ⟨gb5, 0, none⟩ (.int .i64 t2)).setCell ⟨gb5, 1, none⟩ (.int .i64 t3)) = w58 at n0_ n1_ n2_ n3_ ⊢; have HO1 := n0_; have BK3 := n1_; have BK5 := n2_; have HB := n3_; clear n0_ n1_ n2_ n3_; refine df (Kd.dU HO1.1) (bI BK3.1) (bI BK5.1) (bD HB.1) ?_; clear HO1 BK3 BK5 HB; intro HO1 BK3 BK5 HB; refine dX (n := 3) (S := fun w' => w'.cell? ⟨gb5, 0, none⟩ = some (.int .i64 t2) ∧ w'.cell? ⟨gb5, 1, none⟩ = some (.int .i64 t3)) (ds := []) #[false, false, false] (by kernel_rfl) rfl rfl ⟨ce_ BK5.1 0, ce_ BK5.1 1⟩ (fun hHeld => ?_); generalize w58.drew = w59 at HO1 BK3 BK5 HB hHeld ⊢; refine pr_ (i := 1) (N := some 2) #[false, true, false] (by kernel_rfl) ?_; refine take_ (i := 0) (N := some 16) (v := ?_) (a' := ?_) #[true, true, false] rfl rfl (by kernel_rfl) (fun _ _ _ h => h) (Or.inl ⟨by rfl, ?_⟩) hHeld ?_ ?_; rotate_left
  ·
   rintro w' ⟨s0, s1⟩; go_simp
   with_reducible rfl
  rotate_left
  ·
   simp only [Act.put, List.setIfInBounds_toArray, List.set_cons_zero, List.set_cons_succ, cz, cK]
   rfl
  refine one_ (i := 2) (N := none) #[true, true, true] rfl rfl (by kernel_rfl) (by decide) (fun K hK => ?_); have hs60 : w59.cell? ⟨gb3, 0, none⟩ = some (.int .i64 0) := (ax BK3.1 0).trans rfl; have hfs60 := aC BK3.1 0; have hns60_1 := NB5_3.1; have hms60_1 := NB3_5.1; have hs61 : w59.cell? ⟨gb3, 1, none⟩ = some (.int .i64 0) := (ax BK3.1 1).trans rfl; have hfs61 := aC BK3.1 1; refine sk_ ?_; refine hK.out _ _ ⟨(cf2_ gb3 NB5_3.1 hHeld.1), (cf2_ gb3 NB5_3.1 hHeld.2)⟩ (fun hHeld => ?_); clear hK K; refine gB (by kernel_rfl) ?_
  try go_wp2
  refine bodyPost_ret (eF rfl _ _ gb3 40 #[.int .i64 t2, .int .i64 t3] (0, 0) _ rfl (by exact gU (bk_ BK3.1)) Tryz.underlying40 rfl (by kernel_rfl)) rfl ?_; exact ⟨_, er_, by exact Kd.R_nil _ _ _ _ _, bl2_ HB.1 GE3.1 GE5.1⟩
 have c3b0 := beq_iff_eq.mpr c3; have c3b1 := bne_eq_false_iff_eq.mpr c3; clear c3; replace H := bn_ H; obtain ⟨⟨e1, e2, e3, e4⟩, A3, H⟩ := H; (try dsimp only at H); replace H := sp_ H; obtain ⟨c4, H⟩ | ⟨c4, H⟩ := H
 ·
  have c4b0 := beq_iff_eq.mpr c4; have c4b1 := bne_eq_false_iff_eq.mpr c4; clear c4; simp only [Option.some.injEq, Prod.mk.injEq] at H; obtain ⟨rfl, rfl, rfl⟩ := H
  go_enter Tryz.func37, Tryz.ntmps37
  try go_wp2_with (first | ((with_reducible refine aA (N := 3) rfl ?_); refine bx_ (N := 3) (cs := #[.int .i64 0, .int .i64 0]) (t := 40) ?_; intro gb3 hg w4 hbox hb; have n0_ := af.mk (ah (bl_ HB.1) hb); have n1_ := af.mk (hbox); have n3_ := af.mk (bz_ (w := w) hg (bl_ HB.1)); clear HB; have HB := n0_; have BK3 := n1_; have GE3 := n3_; clear n0_ n1_ n3_; clear hb hbox hg) | ((with_reducible refine aj (f := 52) rfl ?_); refine gk_ (some 10) Tryz.func52 (cu.calls k a0 t1 t2 t3 _ A2.1) ?_; rintro e w5 ⟨v1, rfl, ho0, hb⟩; refine ⟨_, rfl, ?_⟩; refine fu (Kd.dB ho0 (bH (bl1_ HB.1 GE3.1))) (bb_ BK3.1 hb) (ah (bl1_ HB.1 GE3.1) hb) ?_; clear BK3 HB; intro HO1 BK3 HB; (try clear hb); (try clear ho0)) | ((with_reducible refine aA (N := 5) rfl ?_); refine bx_ (N := 5) (cs := #[.int .i64 0, .int .i64 0]) (t := 40) ?_; intro gb5 hg w55 hbox hb; have n0_ := af.mk (Kd.aW (rR_ HO1.1) hb); have n1_ := af.mk (bb_ BK3.1 hb); have n2_ := af.mk (ah (bl1_ HB.1 GE3.1) hb); have n3_ := af.mk (hbox); have n5_ := af.mk (bz_ (w := w) hg (bl1_ HB.1 GE3.1)); have n6_ := af.mk (nl_ hg BK3.1); have n7_ := af.mk (ng_ hg BK3.1); clear HO1; clear BK3; clear HB; have HO1 := n0_; have BK3 := n1_; have HB := n2_; have BK5 := n3_; have GE5 := n5_; have NB3_5 := n6_; have NB5_3 := n7_; clear n0_ n1_ n2_ n3_ n5_ n6_ n7_; clear hb hbox hg; have hnb56 := NB5_3.1; have hnc56 := NB3_5.1; obtain ⟨hcz57_0, hcz57_1, hfz57_0, hfz57_1⟩ := cq2_ BK5.1) | ((with_reducible refine fD (t := 40) (p := 5) rfl ?_); refine st_ (t := 40) (p := 5) (w1 := ((w55.setCell ⟨gb5, 0, none⟩ (.int .i64 t2)).setCell ⟨gb5, 1, none⟩ (.int .i64 t3))) ?_; intro w58 hw; have n0_ := af.mk ((by rw [hw]; exact Kd.aQ (rf2_ gb5 (Kd.bu HO1.1 BK5.1 (by decide))) (fun _ hk => trivial) : Kd.R k46 50 w58 w.heap.size (fun _ => True) v1 t1)); have n1_ : af (w58.heap[gb3]? = some (.cells #[.int .i64 0, .int .i64 0] 40 (0, 0))) := ⟨by rw [hw]; refine dC ?_ NB3_5.1; exact BK3.1⟩; have n2_ : af (w58.heap[gb5]? = some (.cells #[.int .i64 t2, .int .i64 t3] 40 (0, 0))) := ⟨by rw [hw]; refine aU (cs := #[.int .i64 t2, .int .i64 0]) ?_ 1 _ rfl; refine aU (cs := #[.int .i64 0, .int .i64 0]) ?_ 0 _ rfl; exact BK5.1⟩; have n3_ : af (Below w.heap.size w w58) := ⟨by rw [hw]; repeat (first | (with_reducible first | exact HB.1 | refine bK ?_ GE3.1 | refine bK ?_ GE5.1) | exact HB.1)⟩; clear hw; clear HO1 BK3 BK5 HB; (try clear hcz57_0 hcz57_1 hfz57_0 hfz57_1); have HO1 := n0_; have BK3 := n1_; have BK5 := n2_; have HB := n3_; clear n0_ n1_ n2_ n3_; have hl5_0 : w58.cell? ⟨gb5, 0, none⟩ = some (.int .i64 t2) := (ax BK5.1 0).trans rfl; have hl5_1 : w58.cell? ⟨gb5, 1, none⟩ = some (.int .i64 t3) := (ax BK5.1 1).trans rfl; obtain ⟨Ao, co, eo⟩ := Kd.cO HO1.1; subst eo; have HC := af.mk (Kd.d9 HO1.1).2.2; have HB58 := HB) | ((with_reducible refine aA (N := 19) rfl ?_); refine bx_ (N := 19) (cs := #[.slice Ao t1.length co, .int .i64 0, .int .i64 0, .int .i64 0]) (t := 82) ?_; intro g hg w60 hbox hb; have n1_ := af.mk (aZ (g := gb3) (o := .cells #[.int .i64 0, .int .i64 0] 40 (0, 0)) BK3.1 hb); have n2_ := af.mk (ah HB.1 hb); have n3_ : af (aT w58 w60 g t1 0 0 0) := ⟨⟨Ao, co, hbox, Nat.le_of_eq hg.symm, HC.1⟩⟩; have n4_ : af (Below w58.heap.size w58 w60) := ⟨hb⟩; have n5_ : af (w.heap.size ≤ g) := ⟨by rw [hg]; exact bH HB.1⟩; have n6_ : af (g ≠ gb3) := ⟨by rw [hg]; exact Nat.ne_of_gt (gy BK3.1)⟩; clear BK3 HB; have BK3 := n1_; have HB := n2_; have HI := n3_; have HB0 := n4_; have GEg := n5_; have NBg_3 := n6_; clear n1_ n2_ n3_ n4_ n5_ n6_; clear hb hbox hg) | ((with_reducible refine aj (f := 53) rfl ?_); refine gk_ (some 21) Tryz.func53 (dI.calls k g t1 0 0 0 0 e1 e2 e3 e4 w58 _ HI.1 HB0.1 A3.1) ?_; rintro e w61 ⟨v2, rfl, ho0, hi, hb2, hk⟩; refine ⟨_, rfl, ?_⟩; have n0_ := af.mk (Kd.dB ho0 (bH HB.1)); have n1_ := af.mk (aV.blk hk (g' := gb3) (o := .cells #[.int .i64 0, .int .i64 0] 40 (0, 0)) BK3.1 NBg_3.1.symm (by simp)); have n2_ := af.mk (ah HB58.1 hb2); have n3_ := af.mk hi; clear BK3 HB HI HB0; have HO2 := n0_; have BK3 := n1_; have HB := n2_; have HI := n3_; clear n0_ n1_ n2_ n3_; obtain ⟨Aq, cq, hgq, hleq, hCq⟩ := HI.1; have hcq_2 : w61.cell? ⟨g, 2, none⟩ = some (.int .i64 e3) := jG hgq; have hcq_3 : w61.cell? ⟨g, 3, none⟩ = some (.int .i64 e4) := jF hgq; have hcb_0 : w61.cell? ⟨gb3, 0, none⟩ = some (.int .i64 0) := (ax BK3.1 0).trans rfl; have hcb_1 : w61.cell? ⟨gb3, 1, none⟩ = some (.int .i64 0) := (ax BK3.1 1).trans rfl; have hfb_0 := aC BK3.1 0; have hfb_1 := aC BK3.1 1; clear hgq hleq hCq ho0 hi hb2 hk))
  refine bodyPost_ret (eF rfl _ _ gb3 40 #[.int .i64 0, .int .i64 0] (0, 0) _ rfl (by exact gU (bk_ BK3.1)) Tryz.underlying40 rfl (by kernel_rfl)) rfl ?_; exact ⟨_, er_, by exact Kd.aQ (rf2_ gb3 (Kd.bu HO2.1 BK3.1 (by decide))) (fun _ hk => trivial), bl1_ HB.1 GE3.1⟩
 have c4b0 := beq_eq_false_iff_ne.mpr c4; have c4b1 := bne_iff_ne.mpr c4; simp only [Option.some.injEq, Prod.mk.injEq] at H; obtain ⟨rfl, rfl, rfl⟩ := H
 go_enter Tryz.func37, Tryz.ntmps37
 try go_wp2_with (first | ((with_reducible refine aA (N := 3) rfl ?_); refine bx_ (N := 3) (cs := #[.int .i64 0, .int .i64 0]) (t := 40) ?_; intro gb3 hg w4 hbox hb; have n0_ := af.mk (ah (bl_ HB.1) hb); have n1_ := af.mk (hbox); have n3_ := af.mk (bz_ (w := w) hg (bl_ HB.1)); clear HB; have HB := n0_; have BK3 := n1_; have GE3 := n3_; clear n0_ n1_ n3_; clear hb hbox hg) | ((with_reducible refine aj (f := 52) rfl ?_); refine gk_ (some 10) Tryz.func52 (cu.calls k a0 t1 t2 t3 _ A2.1) ?_; rintro e w5 ⟨v1, rfl, ho0, hb⟩; refine ⟨_, rfl, ?_⟩; refine fu (Kd.dB ho0 (bH (bl1_ HB.1 GE3.1))) (bb_ BK3.1 hb) (ah (bl1_ HB.1 GE3.1) hb) ?_; clear BK3 HB; intro HO1 BK3 HB; (try clear hb); (try clear ho0)) | ((with_reducible refine aA (N := 5) rfl ?_); refine bx_ (N := 5) (cs := #[.int .i64 0, .int .i64 0]) (t := 40) ?_; intro gb5 hg w55 hbox hb; have n0_ := af.mk (Kd.aW (rR_ HO1.1) hb); have n1_ := af.mk (bb_ BK3.1 hb); have n2_ := af.mk (ah (bl1_ HB.1 GE3.1) hb); have n3_ := af.mk (hbox); have n5_ := af.mk (bz_ (w := w) hg (bl1_ HB.1 GE3.1)); have n6_ := af.mk (nl_ hg BK3.1); have n7_ := af.mk (ng_ hg BK3.1); clear HO1; clear BK3; clear HB; have HO1 := n0_; have BK3 := n1_; have HB := n2_; have BK5 := n3_; have GE5 := n5_; have NB3_5 := n6_; have NB5_3 := n7_; clear n0_ n1_ n2_ n3_ n5_ n6_ n7_; clear hb hbox hg; have hnb56 := NB5_3.1; have hnc56 := NB3_5.1; obtain ⟨hcz57_0, hcz57_1, hfz57_0, hfz57_1⟩ := cq2_ BK5.1) | ((with_reducible refine fD (t := 40) (p := 5) rfl ?_); refine st_ (t := 40) (p := 5) (w1 := ((w55.setCell ⟨gb5, 0, none⟩ (.int .i64 t2)).setCell ⟨gb5, 1, none⟩ (.int .i64 t3))) ?_; intro w58 hw; have n0_ := af.mk ((by rw [hw]; exact Kd.aQ (rf2_ gb5 (Kd.bu HO1.1 BK5.1 (by decide))) (fun _ hk => trivial) : Kd.R k46 50 w58 w.heap.size (fun _ => True) v1 t1)); have n1_ : af (w58.heap[gb3]? = some (.cells #[.int .i64 0, .int .i64 0] 40 (0, 0))) := ⟨by rw [hw]; refine dC ?_ NB3_5.1; exact BK3.1⟩; have n2_ : af (w58.heap[gb5]? = some (.cells #[.int .i64 t2, .int .i64 t3] 40 (0, 0))) := ⟨by rw [hw]; refine aU (cs := #[.int .i64 t2, .int .i64 0]) ?_ 1 _ rfl; refine aU (cs := #[.int .i64 0, .int .i64 0]) ?_ 0 _ rfl; exact BK5.1⟩; have n3_ : af (Below w.heap.size w w58) := ⟨by rw [hw]; repeat (first | (with_reducible first | exact HB.1 | refine bK ?_ GE3.1 | refine bK ?_ GE5.1) | exact HB.1)⟩; clear hw; clear HO1 BK3 BK5 HB; (try clear hcz57_0 hcz57_1 hfz57_0 hfz57_1); have HO1 := n0_; have BK3 := n1_; have BK5 := n2_; have HB := n3_; clear n0_ n1_ n2_ n3_; have hl5_0 : w58.cell? ⟨gb5, 0, none⟩ = some (.int .i64 t2) := (ax BK5.1 0).trans rfl; have hl5_1 : w58.cell? ⟨gb5, 1, none⟩ = some (.int .i64 t3) := (ax BK5.1 1).trans rfl; obtain ⟨Ao, co, eo⟩ := Kd.cO HO1.1; subst eo; have HC := af.mk (Kd.d9 HO1.1).2.2; have HB58 := HB) | ((with_reducible refine aA (N := 19) rfl ?_); refine bx_ (N := 19) (cs := #[.slice Ao t1.length co, .int .i64 0, .int .i64 0, .int .i64 0]) (t := 82) ?_; intro g hg w60 hbox hb; have n1_ := af.mk (aZ (g := gb3) (o := .cells #[.int .i64 0, .int .i64 0] 40 (0, 0)) BK3.1 hb); have n2_ := af.mk (ah HB.1 hb); have n3_ : af (aT w58 w60 g t1 0 0 0) := ⟨⟨Ao, co, hbox, Nat.le_of_eq hg.symm, HC.1⟩⟩; have n4_ : af (Below w58.heap.size w58 w60) := ⟨hb⟩; have n5_ : af (w.heap.size ≤ g) := ⟨by rw [hg]; exact bH HB.1⟩; have n6_ : af (g ≠ gb3) := ⟨by rw [hg]; exact Nat.ne_of_gt (gy BK3.1)⟩; clear BK3 HB; have BK3 := n1_; have HB := n2_; have HI := n3_; have HB0 := n4_; have GEg := n5_; have NBg_3 := n6_; clear n1_ n2_ n3_ n4_ n5_ n6_; clear hb hbox hg) | ((with_reducible refine aj (f := 53) rfl ?_); refine gk_ (some 21) Tryz.func53 (dI.calls k g t1 0 0 0 0 e1 e2 e3 e4 w58 _ HI.1 HB0.1 A3.1) ?_; rintro e w61 ⟨v2, rfl, ho0, hi, hb2, hk⟩; refine ⟨_, rfl, ?_⟩; have n0_ := af.mk (Kd.dB ho0 (bH HB.1)); have n1_ := af.mk (aV.blk hk (g' := gb3) (o := .cells #[.int .i64 0, .int .i64 0] 40 (0, 0)) BK3.1 NBg_3.1.symm (by simp)); have n2_ := af.mk (ah HB58.1 hb2); have n3_ := af.mk hi; clear BK3 HB HI HB0; have HO2 := n0_; have BK3 := n1_; have HB := n2_; have HI := n3_; clear n0_ n1_ n2_ n3_; obtain ⟨Aq, cq, hgq, hleq, hCq⟩ := HI.1; have hcq_2 : w61.cell? ⟨g, 2, none⟩ = some (.int .i64 e3) := jG hgq; have hcq_3 : w61.cell? ⟨g, 3, none⟩ = some (.int .i64 e4) := jF hgq; have hcb_0 : w61.cell? ⟨gb3, 0, none⟩ = some (.int .i64 0) := (ax BK3.1 0).trans rfl; have hcb_1 : w61.cell? ⟨gb3, 1, none⟩ = some (.int .i64 0) := (ax BK3.1 1).trans rfl; have hfb_0 := aC BK3.1 0; have hfb_1 := aC BK3.1 1; clear hgq hleq hCq ho0 hi hb2 hk))
 refine fu (bI BK3.1) (aT.drew HI.1) (bD HB.1) ?_; clear BK3 HI HB hcq_2 hcq_3 hcb_0 hcb_1 hfb_0 hfb_1; intro BK3 HI HB; obtain ⟨Aq, cq, hgq, hleq, hCq⟩ := HI.1; refine dX (n := 6) (S := fun w' => w'.cell? ⟨g, 2, none⟩ = some (.int .i64 e3) ∧ w'.cell? ⟨g, 3, none⟩ = some (.int .i64 e4)) (ds := []) (bm_ 6 0) (by kernel_rfl) rfl (by kernel_rfl) ⟨jG hgq, jF hgq⟩ (fun hHeld => ?_); clear hgq hleq hCq; generalize w61.drew = w62 at BK3 HI HB hHeld ⊢; refine pr_ (i := 4) (N := some 2) (bm_ 6 16) (by kernel_rfl) ?_; refine pr_ (i := 0) (N := some 28) (bm_ 6 17) (by kernel_rfl) ?_; refine pr_ (i := 1) (N := some 29) (bm_ 6 19) (by kernel_rfl) ?_; refine pr_ (i := 2) (N := some 30) (bm_ 6 23) (by kernel_rfl) ?_; refine take_ (i := 3) (N := some 31) (v := ?_) (a' := ?_) (bm_ 6 31) rfl rfl (by kernel_rfl) (fun _ _ _ h => h) (Or.inl ⟨by rfl, ?_⟩) hHeld ?_ ?_; rotate_left
 ·
  rintro w' ⟨s0, s1⟩; go_simp
  with_reducible rfl
 rotate_left
 ·
  simp only [Act.put, List.setIfInBounds_toArray, List.set_cons_zero, List.set_cons_succ, cz, cK]
  rfl
 refine one_ (i := 5) (N := none) (bm_ 6 63) rfl rfl (by kernel_rfl) (by decide) (fun K hK => ?_); obtain ⟨hs60, hs61, hfs60, hfs61⟩ := cq2_ BK3.1; refine sk_ ?_; refine hK.out _ _ ⟨(cf2_ gb3 NBg_3.1 hHeld.1), (cf2_ gb3 NBg_3.1 hHeld.2)⟩ (fun hHeld => ?_); clear hK K; refine gB (by kernel_rfl) ?_
 try go_wp2
 refine bodyPost_ret (eF rfl _ _ gb3 40 #[.int .i64 e3, .int .i64 e4] (0, 0) _ rfl (by exact gU (bk_ BK3.1)) Tryz.underlying40 rfl (by kernel_rfl)) rfl ?_; exact ⟨_, er_, by exact Kd.R_nil _ _ _ _ _, bl1_ HB.1 GE3.1⟩
end Go.Proofs.YtkifdadhojbohaaGreatDoor.Pr
namespace Go.Proofs.YtkifdadhojbohaaGreatDoor.Pu
open Go.RowKit Go.Proofs.YtkifdadhojbohaaGreatDoor Go.Proofs.YtkifdadhojbohaaGreatDoor.Pr Go.Proofs.YtkifdadhojbohaaGreatDoorW.PrintWords Go.Proofs.YtkifdadhojbohaaGreatDoorW.PrintLast Go.Proofs.YtkifdadhojbohaaGreatDoorW.PrintMore
abbrev endS (n : Nat) : S46 := Tok.at_ n ⟨5, [], 0, 0⟩
inductive PA (s : ByteArray) : List S41 × Int × Int → Prop
  | byte (e : Int × Nat) : lexL (s.size + 1) (lst s) = .error e → PA s ([], e.1, (s.size : Int) - e.2)
  | tok (us : List Tok) (e : Int × Int) : lexL (s.size + 1) (lst s) = .ok (us ++ [endT]) → RL 0 (us.map (Tok.at_ s.size) ++ [endS s.size]) (.error e) → PA s ([], e.1, e.2)
  | good (us : List Tok) (cs : List S41) : lexL (s.size + 1) (lst s) = .ok (us ++ [endT]) → RL 0 (us.map (Tok.at_ s.size) ++ [endS s.size]) (.ok (cs, [endS s.size])) → PA s (cs, 0, 0)
theorem kV (s : ByteArray) {us : List Tok} (h : lexL (s.size + 1) (lst s) = .ok (us ++ [endT])) :
    (∀ u ∈ us, dR u.kind u.text u.n = true ∧ u.kind ≠ 5 ∧ 0 < u.rem ∧ u.rem ≤ s.size ∧ u.text.length ≤ s.size) ∧ us.Pairwise (fun a b => b.rem < a.rem) ∧ us.length ≤ s.size := by
  obtain ⟨vs, e, g1, g2, g3, _⟩ := lex_good _ _ _ (by rw [aI]; omega) h
  obtain rfl : us = vs := List.append_cancel_right e
  rw [aI] at g1 g3
  exact ⟨g1, g2, g3⟩
theorem RL_end {z : S46} (hz : z.f0 = 5) {us : List S46} (hu : ∀ u ∈ us, u.f0 ≠ 5) : ∃ x, RL 0 (us ++ [z]) x ∧ ∀ cs r, x = .ok (cs, r) → r = [z] := by
  obtain ⟨x, h1, h2⟩ := RL.total z hz us.length 0 us (by omega) (by omega) hu
  refine ⟨x, h1, fun cs r hx => ?_⟩
  obtain ⟨q, rfl, _, hq⟩ := h2 cs r hx
  obtain ⟨t, r0, p, e1, _, e3, _⟩ := h1.frame _ _ hx
  cases q with
  | nil => rfl
  | cons a q =>
    simp at e1
    obtain ⟨rfl, _⟩ := e1
    simp [iI] at e3
    exact absurd e3 (hq a (by simp))
theorem PA.ex (s : ByteArray) : ∃ y, PA s y := by
  cases hx : lexL (s.size + 1) (lst s) with
  | error e => exact ⟨_, PA.byte e hx⟩
  | ok ts =>
    obtain ⟨us, rfl, g1, g2, g3, _⟩ := lex_good _ _ _ (by rw [aI]; omega) hx
    obtain ⟨x, h1, h2⟩ := RL_end (z := endS s.size) rfl (us := us.map (Tok.at_ s.size)) (by
      intro u hu
      obtain ⟨v, hv, rfl⟩ := List.mem_map.1 hu
      exact (g1 v hv).2.1)
    cases x with
    | error e => exact ⟨_, PA.tok us e hx h1⟩
    | ok p =>
      obtain ⟨cs, r⟩ := p
      obtain rfl := h2 cs r rfl
      exact ⟨_, PA.good us cs hx h1⟩
theorem PA.code {s : ByteArray} {y : List S41 × Int × Int} (h : PA s y) : y.2.1 = 0 ∨ (y.2.1 ≠ 0 ∧ y.1 = []) := by
  cases h with
  | byte e h => exact .inr ⟨kg _ _ _ h, rfl⟩
  | tok us e h h1 => exact .inr ⟨by have := h1.code _ rfl; show e.1 ≠ 0; omega, rfl⟩
  | good => exact .inl rfl
theorem jC (s : ByteArray) {us : List Tok} (h : lexL (s.size + 1) (lst s) = .ok (us ++ [endT])) : (us.map (Tok.at_ s.size) ++ [endS s.size]).length ≤ s.size + 1 := by
  have := (kV s h).2.2
  simp; omega
theorem ko (s : ByteArray) {us : List Tok} (h : lexL (s.size + 1) (lst s) = .ok (us ++ [endT])) : lm s.size [] (lexL (s.size + 1) (lst s)) = (us.map (Tok.at_ s.size) ++ [endS s.size], 0, 0) := by
  rw [h]
  simp [lm]
theorem kI (s : ByteArray) (hs : s.size ≤ 65536) {y : List S41 × Int × Int} (h : PA s y) : Ev (fun k => bV.f k s) y := by
  unfold bV.f
  refine Ev.bind (Lex_f s hs) ?_
  cases h with
  | byte e h =>
    rw [h]
    exact Ev.ifn (kg _ _ _ h) (Ev.now _)
  | tok us e h h1 =>
    rw [ko s h]
    obtain ⟨y, g1, g2⟩ := entries_f _ (by have := jC s h; omega) h1
    refine Ev.ifp rfl (Ev.bind g1 ?_)
    have hc := h1.code _ rfl
    simp only [goodA] at g2
    refine Ev.ifn ?_ (Ev.ret ?_)
    · rw [g2]; omega
    · rw [g2]
  | good us cs h h1 =>
    rw [ko s h]
    obtain ⟨y, g1, g2⟩ := entries_f _ (by have := jC s h; omega) h1
    refine Ev.ifp rfl (Ev.bind g1 ?_)
    simp only [goodA, List.nil_append] at g2
    rw [g2]
    exact Ev.ifp rfl (Ev.now _)
theorem at_valid (s : ByteArray) (hs : s.size ≤ 900000) {us : List Tok} (h : lexL (s.size + 1) (lst s) = .ok (us ++ [endT])) : ∀ t ∈ us.map (Tok.at_ s.size) ++ [endS s.size], dR t.f0 (lst t.f1) t.f2 = true ∧ t.f1.size ≤ 900000 := by
  obtain ⟨g1, _⟩ := kV s h
  intro t ht
  rcases List.mem_append.1 ht with ht | ht
  · obtain ⟨u, hu, rfl⟩ := List.mem_map.1 ht
    obtain ⟨a, b, c, d, e⟩ := g1 u hu
    refine ⟨a, ?_⟩
    show (str u.text).size ≤ 900000
    rw [dY]; omega
  · rw [List.mem_singleton] at ht
    subst ht
    exact ⟨rfl, by show (str []).size ≤ 900000; simp⟩
theorem PA.facts {s : ByteArray} (hs : s.size ≤ 200000) {cs : List S41} {a : Int} (h : PA s (cs, 0, a)) :
    ∃ us, lexL (s.size + 1) (lst s) = .ok (us ++ [endT]) ∧ RL 0 (us.map (Tok.at_ s.size) ++ [endS s.size]) (.ok (cs, [endS s.size])) ∧ szL cs ≤ s.size ∧ depL cs ≤ 8 ∧ (dD cs).length = us.length ∧ gZ cs = true ∧ AllC (txt 900000) cs ∧ chkL cs = 0 ∧ us.length ≤ s.size ∧ a = 0 := by
  generalize hy : (cs, (0 : Int), a) = y at h
  cases h with
  | byte e h => injection hy with _ h2; injection h2 with h2 _; exact absurd h2.symm (kg _ _ _ h)
  | tok us e h h1 => injection hy with _ h2; injection h2 with h2 _; have := h1.code _ rfl; omega
  | good us cs' h h1 =>
    injection hy with e1 e2
    subst e1
    obtain ⟨f1, f2, f3⟩ := h1.facts (by omega) _ _ rfl
    obtain ⟨k1, k2⟩ := h1.form (at_valid s (by omega) h) _ _ rfl
    have hl := jC s h
    simp at f1 f3 hl
    refine ⟨us, h, h1, by omega, by omega, by omega, k1, k2, ?_, by omega, by simpa using (Prod.mk.inj e2).2⟩
    unfold chkL
    rw [if_pos k1, if_neg (by omega)]
theorem RL.place {o : Nat} {ts : List S46} {x : Ans} (h : RL o ts x) : ∀ e, x = .error e → ∃ t ∈ ts, e.2 = t.f3 := by
  induction h with
  | stop => intro e hx; cases hx
  | bad o t r => intro e hx; cases hx; exact ⟨t, by simp, rfl⟩
  | semi o t ats u r x h1 h2 h3 hr ih =>
    intro e hx
    cases x with
    | error e' =>
      cases hx
      obtain ⟨t', h, g⟩ := ih _ rfl
      exact ⟨t', by simp [h], g⟩
    | ok p => cases hx
  | syn o t ats u r => intro e hx; cases hx; exact ⟨u, by simp, rfl⟩
  | lim t ats u r => intro e hx; cases hx; exact ⟨u, by simp, rfl⟩
  | blk o t ats u r ks b q x ho h1 h2 h3 hk hr ihk ih =>
    intro e hx
    cases x with
    | error e' =>
      cases hx
      obtain ⟨t', h, g⟩ := ih _ rfl
      obtain ⟨b', q0, pk, f1, f2, f3, f4, f5⟩ := hk.frame _ _ rfl
      exact ⟨t', by rw [f4]; simp [h], g⟩
    | ok p => cases hx
  | blkF o t ats u r e ho h1 h2 h3 hk ih =>
    intro e' hx
    cases hx
    obtain ⟨t', h, g⟩ := ih _ rfl
    exact ⟨t', by simp [h], g⟩
theorem PA.at_ {s : ByteArray} {y : List S41 × Int × Int} (h : PA s y) (hc : y.2.1 ≠ 0) : 0 ≤ y.2.2 ∧ y.2.2 ≤ (s.size : Int) ∧ y.1 = [] := by
  cases h with
  | byte e h =>
    have := lexL_err _ _ _ h
    rw [aI] at this
    exact ⟨by show (0 : Int) ≤ (s.size : Int) - e.2; omega, by show (s.size : Int) - e.2 ≤ s.size; omega, rfl⟩
  | tok us e h h1 =>
    obtain ⟨t, ht, g⟩ := h1.place _ rfl
    obtain ⟨g1, _⟩ := kV s h
    have hb : 0 ≤ t.f3 ∧ t.f3 ≤ (s.size : Int) := by
      rcases List.mem_append.1 ht with ht | ht
      · obtain ⟨u, hu, rfl⟩ := List.mem_map.1 ht
        obtain ⟨_, _, c, d, _⟩ := g1 u hu
        show (0 : Int) ≤ (s.size : Int) - u.rem ∧ (s.size : Int) - u.rem ≤ s.size
        omega
      · rw [List.mem_singleton] at ht
        subst ht
        show (0 : Int) ≤ (s.size : Int) - (0 : Nat) ∧ (s.size : Int) - (0 : Nat) ≤ s.size
        omega
    exact ⟨by show 0 ≤ e.2; rw [g]; exact hb.1, by show e.2 ≤ _; rw [g]; exact hb.2, rfl⟩
  | good => exact absurd rfl hc
theorem PA_spelled (s : ByteArray) (l : List S41) (hf : gZ l = true) (hd : depL l ≤ 8) (hsz : szL l ≤ 900000) {us : List Tok} (hx : lexL (s.size + 1) (lst s) = .ok (us ++ [endT])) (hk : us.map Tok.key = (dD l).map k3) :
    ∃ cs, SmL false cs l ∧ PA s (cs, 0, 0) := by
  obtain ⟨cs, h1, h2⟩ := read_toks l hf hsz 0 (by omega) (us.map (Tok.at_ s.size)) (by rw [List.map_map]; exact hk) [endS s.size] _ (RL.stop 0 (endS s.size) [] (show (5 : Int) ≠ 1 by decide) rfl)
  exact ⟨cs, h1, PA.good us cs hx (by simpa [pre] using h2)⟩
theorem PA.keys {s : ByteArray} (hs : s.size ≤ 200000) {cs : List S41} {us : List Tok} (h : lexL (s.size + 1) (lst s) = .ok (us ++ [endT])) (h1 : RL 0 (us.map (Tok.at_ s.size) ++ [endS s.size]) (.ok (cs, [endS s.size]))) : us.map Tok.key = (dD cs).map k3 := by
  have := h1.keys (fun t ht => (at_valid s (by omega) h t ht).1) _ _ rfl
  rw [List.map_append] at this
  have := List.append_cancel_right this
  rwa [List.map_map] at this
def sp (t : S46) : List UInt8 := dL t.f0 (lst t.f1) t.f2
def glue (p : Option S46) (t : S46) : Bool := match p with
  | none => false
  | some q => isS q 40 || (isS t 41 || isS t 44)
def dS : Option S46 → List S46 → List UInt8
  | _, [] => []
  | p, t :: l => (if glue p t = true then [] else [32]) ++ (sp t ++ dS (some t) l)
def gu (c : S41) : List UInt8 := lst c.f0 ++ (dS none c.f1 ++ (if c.f2 = true then [32, 123] else [59]))
def srcL : Nat → List S41 → List UInt8
  | _, [] => []
  | n, c :: l => List.replicate n 32 ++ (gu c ++ 10 :: ((if c.f2 = true then srcL (n + 2) c.f3 ++ (List.replicate n 32 ++ [125, 10]) else []) ++ srcL n l))
termination_by _ l => SizeOf.sizeOf l
decreasing_by
  · exact iP c l
  · exact iO c l
theorem atoms_key : ∀ (a b : List S46) (p q : Option S46), a.map (keyT false) = b.map (keyT false) → p.map (keyT false) = q.map (keyT false) → dS p a = dS q b
  | [], [], _, _, _, _ => rfl
  | [], _ :: _, _, _, h, _ => by cases h
  | _ :: _, [], _, _, h, _ => by cases h
  | s :: a, t :: b, p, q, h, hp => by
    rw [List.map_cons, List.map_cons] at h
    injection h with h1 h2
    obtain ⟨k0, k1, k2, _⟩ := key_f h1
    have hs : ∀ c, isS s c = isS t c := fun c => by unfold isS; rw [k0, k1]
    have hg : glue p s = glue q t := by
      cases p with
      | none => cases q with
        | none => rfl
        | some y => cases hp
      | some x => cases q with
        | none => cases hp
        | some y =>
          have hxy : keyT false x = keyT false y := by simpa using hp
          obtain ⟨m0, m1, _, _⟩ := key_f hxy
          have hx : isS x 40 = isS y 40 := by unfold isS; rw [m0, m1]
          simp only [glue, hx, hs]
    have hsp : sp s = sp t := by unfold sp; rw [k0, k1, k2]
    rw [dS, dS, hg, hsp, atoms_key a b (some s) (some t) h2 (by simpa using h1)]
theorem src_same {a b : List S41} (h : SmL false a b) : ∀ n, srcL n a = srcL n b := by
  induction h with
  | nil => intro n; rfl
  | cons c d a b h0 h2 h1 h4 hl1 hl2 hk hr ihk ihr =>
    intro n
    rw [srcL, srcL, ihk, ihr, h2]
    have : gu c = gu d := by
      unfold gu
      rw [h0, h2, atoms_key c.f1 d.f1 none none h1 rfl]
    rw [this]
inductive Em : List KTN → List UInt8 → Prop
  | nil (g : List UInt8) : dw false g = [] → Em [] g
  | cons (g : List UInt8) (u : KTN) (us : List KTN) (s : List UInt8) : gapB g → dR u.1 u.2.1 u.2.2 = true → u.1 ≠ 5 → (u.1 = 3 ∨ u.1 = 4 ∨ ∀ c x, s = c :: x → bQ c = false) → Em us s → Em (u :: us) (g ++ (dL u.1 u.2.1 u.2.2 ++ s))
theorem gap_nil : gapB [] := fun _ => rfl
theorem gap_app {g h : List UInt8} (a : gapB g) (b : gapB h) : gapB (g ++ h) := fun x => by rw [List.append_assoc, a, b]
theorem jE : ∀ n, gapB (List.replicate n 32)
  | 0 => gap_nil
  | n + 1 => fun x => by rw [List.replicate_succ, List.cons_append, skip_blank]; exact jE n x
theorem gap_line : gapB [10] := fun x => by show dw false (10 :: x) = _; rw [sk0]; rfl
theorem Em.gap {us : List KTN} {s g : List UInt8} (h : Em us s) (hg : gapB g) : Em us (g ++ s) := by
  cases h with
  | nil g' h => exact Em.nil _ (by rw [hg, h])
  | cons g' u us s a b c d e =>
    rw [← List.append_assoc]
    exact Em.cons _ u us s (gap_app hg a) b c d e
theorem Em.lex {us : List KTN} {s : List UInt8} (h : Em us s) : ∀ f, s.length < f → ∃ vs, lexL f s = .ok (vs ++ [endT]) ∧ vs.map Tok.key = us := by
  induction h with
  | nil g h =>
    intro f hf
    obtain ⟨f, rfl⟩ : ∃ f', f = f' + 1 := ⟨f - 1, by omega⟩
    refine ⟨[], ?_, rfl⟩
    simp only [lexL, h]
    rfl
  | cons g u us s hg hv h5 ha ho ih =>
    intro f hf
    obtain ⟨⟨hc, hr, hk, ht, hn⟩, hne, _⟩ := jO hv h5
    have hap := tok_app _ s hne hc (by rw [hk]; exact ha)
    rw [hr, hk, ht, hn, List.nil_append] at hap
    cases hx : dL u.1 u.2.1 u.2.2 with
    | nil => exact absurd hx hne
    | cons c m =>
      rw [hx] at hap hf
      obtain ⟨f, rfl⟩ : ∃ f', f = f' + 1 := ⟨f - 1, by omega⟩
      simp at hf
      obtain ⟨vs, g1, g2⟩ := ih f (by omega)
      have hs := skip_tok c (m ++ s) (by rw [← List.cons_append, hap])
      rw [← List.cons_append] at hs
      refine ⟨⟨u.1, u.2.1, u.2.2, (c :: m ++ s).length⟩ :: vs, ?_, by simp [Tok.key, g2]⟩
      rw [lexL_skip f _ _ (hg (c :: m ++ s)), lexL]
      simp only [hs, hap]
      rw [if_neg (by simp), if_neg (by simp), g1]
      rfl
theorem sp_sign {t : S46} {b : UInt8} (h : isS t b = true) : sp t = [b] := by
  unfold isS at h
  simp only [Bool.and_eq_true, beq_iff_eq] at h
  unfold sp dL
  rw [h.1, h.2]
  simp
theorem Em_atoms : ∀ (a : List S46) (p : Option S46) (us : List KTN) (s : List UInt8), (∀ t ∈ a, okA t = true) → Em us s → (∀ c x, s = c :: x → bQ c = false) →
    Em (a.map k3 ++ us) (dS p a ++ s) ∧ ((∀ t, a.head? = some t → glue p t = true → isS t 41 = true ∨ isS t 44 = true) → ∀ c x, dS p a ++ s = c :: x → bQ c = false) := by
  intro a
  induction a with
  | nil => intro p us s _ hs hh; exact ⟨hs, fun _ => hh⟩
  | cons t a ih =>
    intro p us s hv hs hh
    obtain ⟨i1, i2⟩ := ih (some t) us s (fun x hx => hv x (by simp [hx])) hs hh
    have ht := hv t (by simp)
    unfold okA at ht
    rw [Bool.and_eq_true] at ht
    have h5 : t.f0 ≠ 5 := by
      intro h5
      have h := ht.1
      simp [isA, h5] at h
    have hnext : t.f0 = 3 ∨ t.f0 = 4 ∨ ∀ c x, dS (some t) a ++ s = c :: x → bQ c = false := by
      by_cases h40 : isS t 40 = true
      · exact .inr (.inl (isS_f0 h40))
      · refine .inr (.inr (i2 ?_))
        intro x hx hg
        simp only [glue, h40, Bool.false_or, Bool.or_eq_true] at hg
        exact hg
    have hg : gapB (if glue p t = true then [] else [32]) := by
      split
      · exact gap_nil
      · exact jE 1
    have hem := Em.cons _ (k3 t) (a.map k3 ++ us) (dS (some t) a ++ s) hg ht.2 h5 hnext i1
    have e : dS p (t :: a) ++ s = (if glue p t = true then [] else [32]) ++ (dL (k3 t).1 (k3 t).2.1 (k3 t).2.2 ++ (dS (some t) a ++ s)) := by
      rw [dS]
      simp only [List.append_assoc]
      rfl
    refine ⟨by rw [e]; exact hem, ?_⟩
    intro hgl c x hx
    rw [dS] at hx
    by_cases hb : glue p t = true
    · rw [if_pos hb, List.nil_append, List.append_assoc] at hx
      rcases hgl t rfl hb with h | h
      · rw [sp_sign h] at hx
        injection hx with hx _
        subst hx; decide
      · rw [sp_sign h] at hx
        injection hx with hx _
        subst hx; decide
    · rw [if_neg hb] at hx
      injection hx with hx _
      subst hx; decide
theorem valid_sg (b : UInt8) (h : kindOf b.toNat = 5) : dR 4 [b] 0 = true := by
  unfold dR
  simp [h]
theorem Em_sign (b : UInt8) (h : kindOf b.toNat = 5) (g : List UInt8) (hg : gapB g) (us : List KTN) (s : List UInt8) (hs : Em us s) : Em (k3 (sgT b) :: us) (g ++ b :: s) := by
  have := Em.cons g (k3 (sgT b)) us s hg (valid_sg b h) (show (4 : Int) ≠ 5 by decide) (.inr (.inl rfl)) hs
  have e : dL (k3 (sgT b)).1 (k3 (sgT b)).2.1 (k3 (sgT b)).2.2 = [b] := by
    show dL 4 [b] 0 = [b]
    simp [dL]
  rw [e] at this
  exact this
theorem Em_src : ∀ l, gZ l = true → ∀ n us s, Em us s → Em ((dD l).map k3 ++ us) (srcL n l ++ s) := by
  refine indL ?_ ?_
  · intro _ n us s hs
    rw [dD, srcL]; exact hs
  · intro c l h1 h2 hf n us s hs
    rw [gZ] at hf
    simp only [Bool.and_eq_true] at hf
    obtain ⟨⟨⟨⟨f1, f2⟩, f3⟩, f4⟩, f5⟩ := hf
    have htail := h2 f5 n us s hs
    have hok : ∀ t ∈ c.f1, okA t = true := fun t ht => List.all_eq_true.1 f3 t ht
    have hw : dL 1 (lst c.f0) 0 = lst c.f0 := by simp [dL]
    have hword : ∀ (r : List KTN) (b : List UInt8), Em r b → (∀ x y, b = x :: y → bQ x = false) → Em ((1, lst c.f0, 0) :: r) (List.replicate n 32 ++ (lst c.f0 ++ b)) := by
      intro r b hb hh
      have := Em.cons (List.replicate n 32) (1, lst c.f0, 0) r b (jE n) f1 (show (1 : Int) ≠ 5 by decide) (.inr (.inr hh)) hb
      rw [hw] at this
      exact this
    by_cases hb : c.f2 = true
    · have e1 := Em_sign 125 (by decide) (List.replicate n 32) (jE n) _ _ (htail.gap gap_line)
      have e2 := h1 f4 (n + 2) _ _ e1
      have e3 := Em_sign 123 (by decide) [32] (jE 1) _ _ (e2.gap gap_line)
      obtain ⟨e4, e5⟩ := Em_atoms c.f1 none _ _ hok e3 (by intro x y h; injection h with h _; subst h; decide)
      have e6 := hword _ _ e4 (e5 (by intro t ht hg; cases hg))
      rw [dD, srcL, if_pos hb, if_pos hb]
      unfold gu
      rw [if_pos hb]
      have hA : List.map k3 (({ f0 := 1, f1 := c.f0, f2 := 0, f3 := 0 } : S46) :: c.f1 ++ (sgT 123 :: dD c.f3 ++ [sgT 125]) ++ dD l) ++ us = (1, lst c.f0, 0) :: (c.f1.map k3 ++ (k3 (sgT 123) :: ((dD c.f3).map k3 ++ (k3 (sgT 125) :: ((dD l).map k3 ++ us))))) := by
        simp only [List.map_append, List.map_cons, List.map_nil, List.cons_append, List.append_assoc, List.nil_append]
        rfl
      rw [hA]
      simpa using e6
    · have e3 := Em_sign 59 (by decide) [] gap_nil _ _ (htail.gap gap_line)
      obtain ⟨e4, e5⟩ := Em_atoms c.f1 none _ _ hok e3 (by intro x y h; injection h with h _; subst h; decide)
      have e6 := hword _ _ e4 (e5 (by intro t ht hg; cases hg))
      rw [dD, srcL, if_neg hb, if_neg hb]
      unfold gu
      rw [if_neg hb]
      have hA : List.map k3 (({ f0 := 1, f1 := c.f0, f2 := 0, f3 := 0 } : S46) :: c.f1 ++ [sgT 59] ++ dD l) ++ us = (1, lst c.f0, 0) :: (c.f1.map k3 ++ (k3 (sgT 59) :: ((dD l).map k3 ++ us))) := by
        simp only [List.map_append, List.map_cons, List.map_nil, List.cons_append, List.append_assoc, List.nil_append]
        rfl
      rw [hA]
      simpa using e6
theorem PA_src (l : List S41) (hf : gZ l = true) (hd : depL l ≤ 8) (hsz : szL l ≤ 900000) : ∃ cs, SmL false cs l ∧ PA (str (srcL 0 l)) (cs, 0, 0) := by
  have h := Em_src l hf 0 [] [] (Em.nil [] rfl)
  rw [List.append_nil, List.append_nil] at h
  obtain ⟨vs, g1, g2⟩ := h.lex ((str (srcL 0 l)).size + 1) (by rw [dY]; omega)
  exact PA_spelled (str (srcL 0 l)) l hf hd hsz (us := vs) (by rw [gM]; exact g1) g2
end Go.Proofs.YtkifdadhojbohaaGreatDoor.Pu
namespace Go.Proofs.YtkifdadhojbohaaGreatDoor.Pr
open Go.Proofs.YtkifdadhojbohaaGreatDoor
open Go.RowKit Go.Proofs.YtkifdadhojbohaaGreatDoorW.PrintWords Go.Proofs.YtkifdadhojbohaaGreatDoorW.PrintLast Go.Proofs.YtkifdadhojbohaaGreatDoorW.PrintMore
attribute [local go_sem] fU fQ gL gK eT eQ fT fP
def bL.l0 : Nat → ByteArray → Int → Int → Option (Bool)
 | 0, _, _, _ => none
 | k + 1, x0, x5, x6 => if x6 < x5 then (if 0 ≤ x6 then (if x6 < (x0.size : Int) then ((dE.f (bt x0 x6)).bind fun t182 => (if t182 = true then (bL.l0 k x0 x5 (wrap64 (x6 + 1))) else (some false))) else (none)) else (none)) else ((bG.f k x0).bind fun t183 => (some (t183 == 0)))
def bL.f (k : Nat) (a0 : ByteArray) : Option (Bool) := bL.l0 k a0 (a0.size : Int) 0
theorem bL.mono_l : ∀ k, (∀ y0 y1 y2, LeO (bL.l0 k y0 y1 y2) (bL.l0 (k + 1) y0 y1 y2))
 | 0 => fun _ _ _ r h => by simp [bL.l0] at h
 | k + 1 => by
  have ih0 := bL.mono_l k
  ·
   intro y0 y1 y2
   unfold bL.l0
   repeat' first
   | (with_reducible exact LeO.refl _)
   | exact ih0 _ _ _
   | exact bG.mono _ _
   | exact LeO.none _
   | refine LeO.ite ?_ ?_
   | refine LeO.bind ?_ (fun _ => ?_)
theorem bL.mono : ∀ a0 k, LeO (bL.f k a0) (bL.f (k + 1) a0) := by
 intro a0 k
 have ih0 := bL.mono_l k
 unfold bL.f
 repeat' first
   | (with_reducible exact LeO.refl _)
   | exact ih0 _ _ _
   | exact bG.mono _ _
   | exact LeO.none _
   | refine LeO.ite ?_ ?_
   | refine LeO.bind ?_ (fun _ => ?_)
theorem bL.calls (k : Nat) (a0 : ByteArray) (r : Bool) (w : World) (h : bL.f k a0 = some r) :
  Calls Tryz.prog 70 #[.string a0] w fun e w' => e = .returned (.bool r) ∧ Below w.heap.size w w' := by
 have HB := af.mk (Below.refl w.heap.size w); have H : (bL.l0 k a0 (a0.size : Int) 0) = some r := h; clear h; have H' := af.mk H; clear H
 go_enter Tryz.func70, Tryz.ntmps70
 go_wp2
 go_loopg [6] k (fun kq v6 w' => ∃ (x6_1 : Int), v6 = .int .i64 x6_1 ∧ af (bL.l0 kq a0 (a0.size : Int) x6_1 = some r) ∧ af (kq ≤ k) ∧ af (Below w.heap.size w w'))
 case atStart => exact ⟨(0), sr_, H', ⟨Nat.le_refl _⟩, ⟨bl_ HB.1⟩⟩
 case round =>
  clear H'; obtain ⟨x6_1, rfl, HA, HK1, HB⟩ := hrel; obtain _ | k1 := gk
  · exact absurd HA.1 (by simp [bL.l0])
  have H := HA.1; clear HA; simp only [bL.l0] at H; replace H := (sd_ H).symm; obtain ⟨c2b0, H⟩ | ⟨c2b0, H⟩ := H
  ·
   replace H := bn_ H; obtain ⟨t183, A10, H⟩ := H; (try dsimp only at H); obtain rfl := Option.some.inj H
   go_wp2_with (first | ((with_reducible refine aj (f := 89) rfl ?_); refine gk_ (some 16) Tryz.func89 (bG.calls k1 a0 t183 _ A10.1) ?_; rintro e w11 ⟨rfl, hb⟩; refine ⟨_, rfl, ?_⟩; refine gD (ah (bl_ HB.1) hb) ?_; clear hb HB; intro HB))
   go_ret
   exact ⟨er_, bl_ HB.1⟩
  replace H := gd_ H; obtain ⟨c3b0, H⟩ := H; replace H := gd_ H; obtain ⟨c4b0, H⟩ := H; replace H := bn_ H; obtain ⟨t182, A6, H⟩ := H; (try dsimp only at H); replace H := (sb_ H).symm; obtain ⟨rfl, H⟩ | ⟨rfl, H⟩ := H
  ·
   obtain rfl := Option.some.inj H; have p5 : (0 ≤ (x6_1 : Int)) = True := dT_; have q5 : (x6_1 < (a0.size : Int)) = True := dT_; have hx5 := bS a0 x6_1
   go_wp2_with (first | ((with_reducible refine aj (f := 86) rfl ?_); refine gk_ (some 12) Tryz.func86 (dE.calls (bt a0 x6_1) false _ A6.1) ?_; rintro e w9 ⟨rfl, hb⟩; refine ⟨_, rfl, ?_⟩; refine gD (ah (bl_ HB.1) hb) ?_; clear hb HB; intro HB))
   go_ret
   exact ⟨er_, bl_ HB.1⟩
  have H' := af.mk H; clear H; have p5 : (0 ≤ (x6_1 : Int)) = True := dT_; have q5 : (x6_1 < (a0.size : Int)) = True := dT_; have hx5 := bS a0 x6_1
  go_wp2_with (first | ((with_reducible refine aj (f := 86) rfl ?_); refine gk_ (some 12) Tryz.func86 (dE.calls (bt a0 x6_1) true _ A6.1) ?_; rintro e w8 ⟨rfl, hb⟩; refine ⟨_, rfl, ?_⟩; refine gD (ah (bl_ HB.1) hb) ?_; clear hb HB; intro HB))
  go_roundg k1
  case measure => have := HK1.1; omega
  case rel => exact ⟨(wrap64 (x6_1 + 1)), sr_, H', ⟨om_ HK1.1⟩, ⟨bl_ HB.1⟩⟩
def aY.j0 : Nat → Bool → Int → ByteArray → Int → Int → Option (Bool)
 | 0, _, _, _, _, _ => none
 | k + 1, x10, x185000, x185001, x185002, x185003 => if x10 = true then (some false) else (if x185000 = 1 then (if x185001.toList = ([] : List UInt8) then (some false) else ((bL.f k x185001).bind fun t185 => (some t185))) else (if x185000 = 2 then (if x185001.toList = ([] : List UInt8) then (if 0 ≤ x185002 then (some (decide (x185002 ≤ 1000000000))) else (some false)) else (some false)) else (if x185000 = 3 then ((bi.f k x185001).bind fun t186 => (some (t186 == 0))) else (if x185000 = 4 then (if (x185001.size : Int) = 1 then ((aR.f).bind fun t187 => (if 0 < (x185001.size : Int) then (if 0 ≤ (bt x185001 0) then (if (bt x185001 0) < 256 then (some ((aR.at_ (bt x185001 0)) == 5)) else (none)) else (none)) else (none))) else (some false)) else (if x185000 = 5 then (some (x185001.toList == ([] : List UInt8))) else (some false))))))
def aY.f (k : Nat) (a0_0 : Int) (a0_1 : ByteArray) (a0_2 : Int) (a0_3 : Int) : Option (Bool) := if a0_0 = 2 then (aY.j0 k false a0_0 a0_1 a0_2 a0_3) else (aY.j0 k (a0_2 != 0) a0_0 a0_1 a0_2 a0_3)
theorem aY.mono_l : ∀ k, (∀ y0 y1 y2 y3 y4, LeO (aY.j0 k y0 y1 y2 y3 y4) (aY.j0 (k + 1) y0 y1 y2 y3 y4))
 | 0 => fun _ _ _ _ _ r h => by simp [aY.j0] at h
 | k + 1 => by
  have ih0 := aY.mono_l k
  ·
   intro y0 y1 y2 y3 y4
   unfold aY.j0
   repeat' first
   | (with_reducible exact LeO.refl _)
   | exact ih0 _ _ _ _ _
   | exact bL.mono _ _
   | exact bi.mono _ _
   | exact LeO.none _
   | refine LeO.ite ?_ ?_
   | refine LeO.bind ?_ (fun _ => ?_)
theorem aY.mono : ∀ a0 a1 a2 a3 k, LeO (aY.f k a0 a1 a2 a3) (aY.f (k + 1) a0 a1 a2 a3) := by
 intro a0 a1 a2 a3 k
 have ih0 := aY.mono_l k
 unfold aY.f
 repeat' first
   | (with_reducible exact LeO.refl _)
   | exact ih0 _ _ _ _ _
   | exact bL.mono _ _
   | exact bi.mono _ _
   | exact LeO.none _
   | refine LeO.ite ?_ ?_
   | refine LeO.bind ?_ (fun _ => ?_)
def aY.T11 : Bool × List (List Nat × List Nat) := (true, [([], []), ([0], [0]), ([1], [1]), ([2], [2]), ([3], [3]), ([4, 4], [4]), ([4], [4]), ([6, 4], [4, 6]), ([7, 4], [4, 7]), ([5, 8, 4], [4, 5, 8]), ([9, 4], [4, 9]), ([4, 10], [4, 10]), ([11, 5, 0, 1, 2, 3, 4, 5, 6, 7, 8, 9, 10, 11], [11])])
def aY.B11 : List Nat := [0, 1, 3, 7, 15, 31, 31, 95, 223, 511, 1023, 2047, 4095]
theorem aY.tab11 : rtab .any (opsOf Tryz.f58 11) = aY.T11 := by kernel_rfl
theorem aY.bits11 : fJ aY.T11.2 aY.B11 = true := by kernel_rfl
theorem aY.calls (k : Nat) (a0_0 : Int) (a0_1 : ByteArray) (a0_2 : Int) (a0_3 : Int) (r : Bool) (w : World) (h : aY.f k a0_0 a0_1 a0_2 a0_3 = some r) :
  Calls Tryz.prog 58 #[.agg #[.int .i64 a0_0, .string a0_1, .int .i64 a0_2, .int .i64 a0_3]] w fun e w' => e = .returned (.bool r) ∧ Below w.heap.size w w' := by
 have hu46 := Tryz.underlying50; have HB := af.mk (Below.refl w.heap.size w); have H : (if a0_0 = 2 then (aY.j0 k false a0_0 a0_1 a0_2 a0_3) else (aY.j0 k (a0_2 != 0) a0_0 a0_1 a0_2 a0_3)) = some r := h; clear h; have HC2 := af.mk H; clear H
 go_enter Tryz.func58, Tryz.ntmps58
 go_upto_region 1 with (first | ((with_reducible refine aA (N := 1) rfl ?_); refine bx_ (N := 1) (cs := #[.int .i64 a0_0, .string a0_1, .int .i64 a0_2, .int .i64 a0_3]) (t := 50) ?_; intro gb184 hg w3 hbox hb; have n0_ := af.mk (ah (bl_ HB.1) hb); have n1_ := af.mk (hbox); have n2_ := af.mk (bz_ (w := w) hg (bl_ HB.1)); have n3_ := af.mk (bz_ (w := w) hg (bl_ HB.1)); clear HB; have HB := n0_; have BK184 := n1_; have GW184 := n2_; have GE184 := n3_; clear n0_ n1_ n2_ n3_; clear hb hbox hg))
 (try simp only [Act.put, List.setIfInBounds_toArray, List.set_cons_zero, List.set_cons_succ])
 go_cut [10] (fun v10 wc => ∃ (kq : Nat) (x10_1 : Bool), v10 = .bool x10_1 ∧ af (aY.j0 kq x10_1 a0_0 a0_1 a0_2 a0_3 = some r) ∧ af (kq ≤ k) ∧ af (wc.heap[gb184]? = some (.cells #[.int .i64 a0_0, .string a0_1, .int .i64 a0_2, .int .i64 a0_3] 50 (0, 0))) ∧ af (Below w.heap.size w wc))
 case first =>
  have H := HC2.1; clear HC2; replace H := (sp_ H).symm; obtain ⟨c4, H⟩ | ⟨c4, H⟩ := H
  ·
   have c4b0 := beq_eq_false_iff_ne.mpr c4; have c4b1 := bne_iff_ne.mpr c4
   (first | rw [c4b0] | (simp only [cz, cK]; rw [c4b0]) | skip)
   have H' := af.mk H; clear H; obtain ⟨hcz6_0, hcz6_1, hcz6_2, hcz6_3, hfz6_0, hfz6_1, hfz6_2, hfz6_3⟩ := cq4_ BK184.1
   go_wp2
   go_meet
   case rel => exact ⟨_, ((a0_2 != 0)), sr_, H', ⟨by first | omega | exact Nat.le_refl _⟩, ⟨bk_ BK184.1⟩, ⟨bl1_ HB.1 GE184.1⟩⟩
  have c4b0 := beq_iff_eq.mpr c4; have c4b1 := bne_eq_false_iff_eq.mpr c4; clear c4
  (first | rw [c4b0] | (simp only [cz, cK]; rw [c4b0]) | skip)
  have H' := af.mk H; clear H; obtain ⟨hcz5_0, hcz5_1, hcz5_2, hcz5_3, hfz5_0, hfz5_1, hfz5_2, hfz5_3⟩ := cq4_ BK184.1
  go_wp2
  go_meet
  case rel => exact ⟨_, (false), sr_, H', ⟨by first | omega | exact Nat.le_refl _⟩, ⟨bk_ BK184.1⟩, ⟨bl1_ HB.1 GE184.1⟩⟩
 case rest =>
  clear HC2; obtain ⟨kq, x10_1, rfl, HA, HJ1, BK184, HB⟩ := hcut
  cases kq with
  | zero => exact absurd HA.1 (by simp [aY.j0])
  | succ kj1 =>
   have H := HA.1; clear HA; simp only [aY.j0] at H; replace H := sb_ H; obtain ⟨rfl, H⟩ | ⟨rfl, H⟩ := H
   ·
    obtain rfl := Option.some.inj H
    go_wp2
    go_ret
    exact ⟨er_, bl1_ HB.1 GE184.1⟩
   replace H := sp_ H; obtain ⟨c8, H⟩ | ⟨c8, H⟩ := H
   ·
    have c8b0 := beq_iff_eq.mpr c8; have c8b1 := bne_eq_false_iff_eq.mpr c8; clear c8; replace H := sp_ H; obtain ⟨c9, H⟩ | ⟨c9, H⟩ := H
    ·
     have c9b0 := beq_iff_eq.mpr c9; have c9b1 := bne_eq_false_iff_eq.mpr c9; clear c9; obtain rfl := Option.some.inj H; obtain ⟨hcz10_0, hcz10_1, hcz10_2, hcz10_3, hfz10_0, hfz10_1, hfz10_2, hfz10_3⟩ := cq4_ BK184.1
     go_wp2
     go_ret
     exact ⟨er_, bl1_ HB.1 GE184.1⟩
    have c9b0 := beq_eq_false_iff_ne.mpr c9; have c9b1 := bne_iff_ne.mpr c9; replace H := bn_ H; obtain ⟨t185, A11, H⟩ := H; (try dsimp only at H); obtain rfl := Option.some.inj H; obtain ⟨hcz12_0, hcz12_1, hcz12_2, hcz12_3, hfz12_0, hfz12_1, hfz12_2, hfz12_3⟩ := cq4_ BK184.1
    go_wp2_with (first | (go_at_call 70; (with_reducible refine (bL.calls kj1 a0_1 t185 _ A11.1).mono ?_); rintro e w13 ⟨rfl, hb⟩; refine fK (bb_ BK184.1 hb) (ah (bl1_ HB.1 GE184.1) hb) ?_; clear BK184 HB; intro BK184 HB; (try clear hb); (try clear hb2); (try clear hk); (try clear hi)))
    go_ret
    exact ⟨er_, bl1_ HB.1 GE184.1⟩
   have c8b0 := beq_eq_false_iff_ne.mpr c8; have c8b1 := bne_iff_ne.mpr c8; replace H := sp_ H; obtain ⟨c14, H⟩ | ⟨c14, H⟩ := H
   ·
    have c14b0 := beq_iff_eq.mpr c14; have c14b1 := bne_eq_false_iff_eq.mpr c14; clear c14; replace H := (sp_ H).symm; obtain ⟨c15, H⟩ | ⟨c15, H⟩ := H
    ·
     have c15b0 := beq_eq_false_iff_ne.mpr c15; have c15b1 := bne_iff_ne.mpr c15; obtain rfl := Option.some.inj H; obtain ⟨hcz19_0, hcz19_1, hcz19_2, hcz19_3, hfz19_0, hfz19_1, hfz19_2, hfz19_3⟩ := cq4_ BK184.1
     go_wp2
     go_ret
     exact ⟨er_, bl1_ HB.1 GE184.1⟩
    have c15b0 := beq_iff_eq.mpr c15; have c15b1 := bne_eq_false_iff_eq.mpr c15; clear c15; replace H := sd_ H; obtain ⟨c16b0, H⟩ | ⟨c16b0, H⟩ := H
    ·
     obtain rfl := Option.some.inj H; obtain ⟨hcz17_0, hcz17_1, hcz17_2, hcz17_3, hfz17_0, hfz17_1, hfz17_2, hfz17_3⟩ := cq4_ BK184.1
     go_wp2
     go_ret
     exact ⟨er_, bl1_ HB.1 GE184.1⟩
    obtain rfl := Option.some.inj H; obtain ⟨hcz18_0, hcz18_1, hcz18_2, hcz18_3, hfz18_0, hfz18_1, hfz18_2, hfz18_3⟩ := cq4_ BK184.1
    go_wp2
    go_ret
    exact ⟨er_, bl1_ HB.1 GE184.1⟩
   have c14b0 := beq_eq_false_iff_ne.mpr c14; have c14b1 := bne_iff_ne.mpr c14; replace H := sp_ H; obtain ⟨c20, H⟩ | ⟨c20, H⟩ := H
   ·
    have c20b0 := beq_iff_eq.mpr c20; have c20b1 := bne_eq_false_iff_eq.mpr c20; clear c20; replace H := bn_ H; obtain ⟨t186, A21, H⟩ := H; (try dsimp only at H); obtain rfl := Option.some.inj H; obtain ⟨hcz22_0, hcz22_1, hcz22_2, hcz22_3, hfz22_0, hfz22_1, hfz22_2, hfz22_3⟩ := cq4_ BK184.1
    go_wp2_with (first | ((with_reducible refine aj (f := 71) rfl ?_); refine gk_ (some 42) Tryz.func71 (bi.calls kj1 a0_1 t186 _ A21.1) ?_; rintro e w' ⟨rfl, ⟨nd, rfl⟩⟩; refine ⟨_, rfl, ?_⟩))
    go_ret
    exact ⟨er_, bl1_ HB.1 GE184.1⟩
   have c20b0 := beq_eq_false_iff_ne.mpr c20; have c20b1 := bne_iff_ne.mpr c20; replace H := (sp_ H).symm; obtain ⟨c23, H⟩ | ⟨c23, H⟩ := H
   ·
    have c23b0 := beq_eq_false_iff_ne.mpr c23; have c23b1 := bne_iff_ne.mpr c23; replace H := (sp_ H).symm; obtain ⟨c36, H⟩ | ⟨c36, H⟩ := H
    ·
     have c36b0 := beq_eq_false_iff_ne.mpr c36; have c36b1 := bne_iff_ne.mpr c36; obtain rfl := Option.some.inj H; obtain ⟨hcz38_0, hcz38_1, hcz38_2, hcz38_3, hfz38_0, hfz38_1, hfz38_2, hfz38_3⟩ := cq4_ BK184.1
     go_wp2
     go_ret
     exact ⟨er_, bl1_ HB.1 GE184.1⟩
    have c36b0 := beq_iff_eq.mpr c36; have c36b1 := bne_eq_false_iff_eq.mpr c36; clear c36; obtain rfl := Option.some.inj H; obtain ⟨hcz37_0, hcz37_1, hcz37_2, hcz37_3, hfz37_0, hfz37_1, hfz37_2, hfz37_3⟩ := cq4_ BK184.1
    go_wp2
    go_ret
    exact ⟨er_, bl1_ HB.1 GE184.1⟩
   have c23b0 := beq_iff_eq.mpr c23; have c23b1 := bne_eq_false_iff_eq.mpr c23; clear c23; replace H := (sp_ H).symm; obtain ⟨c24, H⟩ | ⟨c24, H⟩ := H
   ·
    have c24b0 := beq_eq_false_iff_ne.mpr c24; have c24b1 := bne_iff_ne.mpr c24; obtain rfl := Option.some.inj H; obtain ⟨hcz34_0, hcz34_1, hcz34_2, hcz34_3, hfz34_0, hfz34_1, hfz34_2, hfz34_3⟩ := cq4_ BK184.1
    try go_wp2
    refine fK (bI BK184.1) (bD HB.1) ?_; clear BK184 HB; intro BK184 HB; refine dX (n := 13) (S := fun w' => w'.cell? ⟨gb184, 0, none⟩ = some (.int .i64 a0_0) ∧ w'.cell? ⟨gb184, 1, none⟩ = some (.string a0_1) ∧ w'.cell? ⟨gb184, 2, none⟩ = some (.int .i64 a0_2) ∧ w'.cell? ⟨gb184, 3, none⟩ = some (.int .i64 a0_3)) (ds := []) (bm_ 13 0) (by kernel_rfl) rfl (by kernel_rfl) ⟨ce_ BK184.1 0, ce_ BK184.1 1, ce_ BK184.1 2, ce_ BK184.1 3⟩ (fun hHeld => ?_); refine cZ aY.tab11 aY.bits11 (fun HT_ HW_ => ?_); generalize wc.drew = w35 at BK184 HB hHeld ⊢; refine pt_ HT_.1 (i := 0) (N := some 46) (bm_ 13 1) ?_; refine tw_ HT_.1 HW_.1 hHeld (i := 1) (N := some 47) (bm_ 13 3) ?_; refine pt_ HT_.1 (i := 2) (N := some 48) (bm_ 13 7) ?_; refine pt_ HT_.1 (i := 3) (N := some 49) (bm_ 13 15) ?_; refine pt_ HT_.1 (i := 4) (N := some 50) (bm_ 13 31) ?_; refine iJ (i := 5) (N := some 51) (v := undef) (a' := ?_) (bm_ 13 63) rfl rfl (gF HT_.1 (by kernel_rfl)) (fun _ _ _ h => h) (Or.inr ⟨by rfl, rfl⟩) ?_ ?_; rotate_left
    ·
     simp only [Act.put, List.setIfInBounds_toArray, List.set_cons_zero, List.set_cons_succ, cz, cK]
     rfl
    refine iJ (i := 6) (N := some 52) (v := undef) (a' := ?_) (bm_ 13 127) rfl rfl (gF HT_.1 (by kernel_rfl)) (fun _ _ _ h => h) (Or.inr ⟨by rfl, rfl⟩) ?_ ?_; rotate_left
    ·
     simp only [Act.put, List.setIfInBounds_toArray, List.set_cons_zero, List.set_cons_succ, cz, cK]
     rfl
    refine iJ (i := 7) (N := some 53) (v := undef) (a' := ?_) (bm_ 13 255) rfl rfl (gF HT_.1 (by kernel_rfl)) (fun _ _ _ h => h) (Or.inr ⟨by rfl, rfl⟩) ?_ ?_; rotate_left
    ·
     simp only [Act.put, List.setIfInBounds_toArray, List.set_cons_zero, List.set_cons_succ, cz, cK]
     rfl
    refine iJ (i := 8) (N := some 54) (v := undef) (a' := ?_) (bm_ 13 511) rfl rfl (gF HT_.1 (by kernel_rfl)) (fun _ _ _ h => h) (Or.inr ⟨by rfl, rfl⟩) ?_ ?_; rotate_left
    ·
     simp only [Act.put, List.setIfInBounds_toArray, List.set_cons_zero, List.set_cons_succ, cz, cK]
     rfl
    refine iJ (i := 9) (N := some 55) (v := undef) (a' := ?_) (bm_ 13 1023) rfl rfl (gF HT_.1 (by kernel_rfl)) (fun _ _ _ h => h) (Or.inr ⟨by rfl, rfl⟩) ?_ ?_; rotate_left
    ·
     simp only [Act.put, List.setIfInBounds_toArray, List.set_cons_zero, List.set_cons_succ, cz, cK]
     rfl
    refine iJ (i := 10) (N := some 56) (v := undef) (a' := ?_) (bm_ 13 2047) rfl rfl (gF HT_.1 (by kernel_rfl)) (fun _ _ _ h => h) (Or.inr ⟨by rfl, rfl⟩) ?_ ?_; rotate_left
    ·
     simp only [Act.put, List.setIfInBounds_toArray, List.set_cons_zero, List.set_cons_succ, cz, cK]
     rfl
    refine pt_ HT_.1 (i := 11) (N := some 57) (bm_ 13 4095) ?_; refine pt_ HT_.1 (i := 12) (N := some 2) (bm_ 13 8191) ?_; refine gB (eB HT_.1 (by kernel_rfl)) ?_
    try go_wp2
    go_ret
    exact ⟨er_, bl1_ HB.1 GE184.1⟩
   have c24b0 := beq_iff_eq.mpr c24; have c24b1 := bne_eq_false_iff_eq.mpr c24; clear c24; replace H := bn_ H; obtain ⟨t187, A25, H⟩ := H; (try dsimp only at H); replace H := gp_ H; obtain ⟨c26, H⟩ := H; have c26b0 := decide_eq_true c26; have c26b1 : decide (0 < a0_1.size) = true := decide_eq_true (by omega); clear c26; replace H := gd_ H; obtain ⟨c28b0, H⟩ := H; replace H := gd_ H; obtain ⟨c29b0, H⟩ := H; obtain rfl := Option.some.inj H; obtain ⟨hcz31_0, hcz31_1, hcz31_2, hcz31_3, hfz31_0, hfz31_1, hfz31_2, hfz31_3⟩ := cq4_ BK184.1
   try go_wp2
   refine fK (bI BK184.1) (bD HB.1) ?_; clear BK184 HB; intro BK184 HB; have p27 : 0 ≤ (0 : Int) := (by omega); have q27 : 0 < a0_1.size := (by have : (0 : Int) < (a0_1.size : Int) := dt_; omega); have hx27 : ∀ h : 0 < a0_1.size, ((a0_1[0]'h).toNat : Int) = bt a0_1 0 := bS a0_1 0; clear p27; have qi27 : (0 < (a0_1.size : Int)) = True := eq_true (dt_); replace q27 := eq_true q27; refine dX (n := 13) (S := fun w' => w'.cell? ⟨gb184, 0, none⟩ = some (.int .i64 a0_0) ∧ w'.cell? ⟨gb184, 1, none⟩ = some (.string a0_1) ∧ w'.cell? ⟨gb184, 2, none⟩ = some (.int .i64 a0_2) ∧ w'.cell? ⟨gb184, 3, none⟩ = some (.int .i64 a0_3)) (ds := []) (bm_ 13 0) (by kernel_rfl) rfl (by kernel_rfl) ⟨ce_ BK184.1 0, ce_ BK184.1 1, ce_ BK184.1 2, ce_ BK184.1 3⟩ (fun hHeld => ?_); refine cZ aY.tab11 aY.bits11 (fun HT_ HW_ => ?_); generalize wc.drew = w32 at BK184 HB hHeld ⊢; refine pt_ HT_.1 (i := 0) (N := some 46) (bm_ 13 1) ?_; refine tw_ HT_.1 HW_.1 hHeld (i := 1) (N := some 47) (bm_ 13 3) ?_; refine pt_ HT_.1 (i := 2) (N := some 48) (bm_ 13 7) ?_; refine pt_ HT_.1 (i := 3) (N := some 49) (bm_ 13 15) ?_; refine pt_ HT_.1 (i := 4) (N := some 50) (bm_ 13 31) ?_; refine pt_ HT_.1 (i := 6) (N := some 52) (bm_ 13 95) ?_; refine tw_ HT_.1 HW_.1 hHeld (i := 7) (N := some 53) (bm_ 13 223) ?_; refine tw_ HT_.1 HW_.1 hHeld (i := 8) (N := some 54) (bm_ 13 479) ?_; refine on_ HT_.1 (i := 5) (N := some 51) (bm_ 13 511) (fun K hK => ?_); refine kP Tryz.func72 (by kernel_rfl) rfl #[] (by rfl) rfl rfl ga_ ?_
   with_reducible refine (aR.calls  t187 _ A25.1).mono ?_
   rintro e w33 ⟨rfl, hb⟩; refine ⟨_, rfl, ?_⟩; refine fK (bb_ BK184.1 hb) (ah (bl1_ HB.1 GE184.1) hb) ?_; clear BK184 HB; intro BK184 HB; (try clear hb); have p30 : 0 ≤ ((bt a0_1 0) : Int) := dt_; have q30 : ((bt a0_1 0) : Int) < 256 := dt_; have hx30 := aR.at_run A25.1 (bt a0_1 0) p30 q30; replace p30 := eq_true p30; replace q30 := eq_true q30; refine hK.out _ _ ⟨ce_ BK184.1 0, ce_ BK184.1 1, ce_ BK184.1 2, ce_ BK184.1 3⟩ (fun hHeld => ?_); clear hK K; refine nm_ ?_; refine tw_ HT_.1 HW_.1 hHeld (i := 9) (N := some 55) (bm_ 13 1023) ?_; refine pt_ HT_.1 (i := 10) (N := some 56) (bm_ 13 2047) ?_; refine pt_ HT_.1 (i := 11) (N := some 57) (bm_ 13 4095) ?_; refine pt_ HT_.1 (i := 12) (N := some 2) (bm_ 13 8191) ?_; refine gB (eB HT_.1 (by kernel_rfl)) ?_
   try go_wp2
   go_ret
   exact ⟨er_, bl1_ HB.1 GE184.1⟩
def dN.f (k : Nat) (a0_0 : Int) (a0_1 : ByteArray) (a0_2 : Int) (a0_3 : Int) : Option (ByteArray × Int) := (aY.f k a0_0 a0_1 a0_2 a0_3).bind fun t359 => (if t359 = true then (if a0_0 = 3 then (if 1 + a0_1.size ≤ 9223372036854775807 then (if ((⟨#[34]⟩ : ByteArray) ++ a0_1).size + 1 ≤ 9223372036854775807 then (some (((⟨#[34]⟩ : ByteArray) ++ a0_1) ++ (⟨#[34]⟩ : ByteArray), 0)) else (none)) else (none)) else (if a0_0 = 2 then ((bW.f (wrap64 (a0_2 + 1000)) 10).bind fun t360 => ((bW.f (wrap64 (Int.tdiv a0_2 1000)) 10).bind fun t361 => (if 0 ≤ (wrap64 ((t360.size : Int) - 3)) then (if (wrap64 ((t360.size : Int) - 3)) ≤ (t360.size : Int) then ((cB.f (t360.extract ((wrap64 ((t360.size : Int) - 3)) : Int).toNat t360.size) (⟨#[48]⟩ : ByteArray)).bind fun t362 => (if t362.toList = ([] : List UInt8) then (some (t361, 0)) else (if t361.size + 1 ≤ 9223372036854775807 then (if (t361 ++ (⟨#[46]⟩ : ByteArray)).size + t362.size ≤ 9223372036854775807 then (some ((t361 ++ (⟨#[46]⟩ : ByteArray)) ++ t362, 0)) else (none)) else (none)))) else (none)) else (none)))) else (some (a0_1, 0)))) else (some ((⟨#[]⟩ : ByteArray), 1)))
theorem dN.mono : ∀ a0 a1 a2 a3 k, LeO (dN.f k a0 a1 a2 a3) (dN.f (k + 1) a0 a1 a2 a3) := by
 intro a0 a1 a2 a3 k
 unfold dN.f
 repeat' first
   | (with_reducible exact LeO.refl _)
   | exact aY.mono _ _ _ _ _
   | exact LeO.none _
   | refine LeO.ite ?_ ?_
   | refine LeO.bind ?_ (fun _ => ?_)
theorem dN.calls (k : Nat) (a0_0 : Int) (a0_1 : ByteArray) (a0_2 : Int) (a0_3 : Int) (r1 : ByteArray) (r2 : Int) (w : World) (hG : Gl w) (h : dN.f k a0_0 a0_1 a0_2 a0_3 = some (r1, r2)) :
  Calls Tryz.prog 44 #[.agg #[.int .i64 a0_0, .string a0_1, .int .i64 a0_2, .int .i64 a0_3]] w fun e w' => e = .returned (.tuple #[.string r1, .int .i64 r2]) ∧ Below w.heap.size w w' := by
 have hu46 := Tryz.underlying50; have HB := af.mk (Below.refl w.heap.size w); have H : ((aY.f k a0_0 a0_1 a0_2 a0_3).bind fun t359 => (if t359 = true then (if a0_0 = 3 then (if 1 + a0_1.size ≤ 9223372036854775807 then (if ((⟨#[34]⟩ : ByteArray) ++ a0_1).size + 1 ≤ 9223372036854775807 then (some (((⟨#[34]⟩ : ByteArray) ++ a0_1) ++ (⟨#[34]⟩ : ByteArray), 0)) else (none)) else (none)) else (if a0_0 = 2 then ((bW.f (wrap64 (a0_2 + 1000)) 10).bind fun t360 => ((bW.f (wrap64 (Int.tdiv a0_2 1000)) 10).bind fun t361 => (if 0 ≤ (wrap64 ((t360.size : Int) - 3)) then (if (wrap64 ((t360.size : Int) - 3)) ≤ (t360.size : Int) then ((cB.f (t360.extract ((wrap64 ((t360.size : Int) - 3)) : Int).toNat t360.size) (⟨#[48]⟩ : ByteArray)).bind fun t362 => (if t362.toList = ([] : List UInt8) then (some (t361, 0)) else (if t361.size + 1 ≤ 9223372036854775807 then (if (t361 ++ (⟨#[46]⟩ : ByteArray)).size + t362.size ≤ 9223372036854775807 then (some ((t361 ++ (⟨#[46]⟩ : ByteArray)) ++ t362, 0)) else (none)) else (none)))) else (none)) else (none)))) else (some (a0_1, 0)))) else (some ((⟨#[]⟩ : ByteArray), 1)))) = some (r1, r2) := h; clear h; replace H := bn_ H; obtain ⟨t359, A2, H⟩ := H; (try dsimp only at H); replace H := (sb_ H).symm; obtain ⟨rfl, H⟩ | ⟨rfl, H⟩ := H
 ·
  simp only [Option.some.injEq, Prod.mk.injEq] at H; obtain ⟨rfl, rfl⟩ := H
  go_enter Tryz.func44, Tryz.ntmps44
  go_wp2_with (first | ((with_reducible refine aA (N := 1) rfl ?_); refine bx_ (N := 1) (cs := #[.int .i64 a0_0, .string a0_1, .int .i64 a0_2, .int .i64 a0_3]) (t := 50) ?_; intro gb358 hg w41 hbox hb; refine df (ah (bl_ HB.1) hb) (hbox) (bz_ (w := w) hg (bl_ HB.1)) (bz_ (w := w) hg (bl_ HB.1)) ?_; clear HB; intro HB BK358 GW358 GE358; clear hb hbox hg; obtain ⟨hcz42_0, hcz42_1, hcz42_2, hcz42_3, hfz42_0, hfz42_1, hfz42_2, hfz42_3⟩ := cq4_ BK358.1) | ((with_reducible refine aj (f := 58) rfl ?_); refine gk_ (some 8) Tryz.func58 (aY.calls k a0_0 a0_1 a0_2 a0_3 false _ A2.1) ?_; rintro e w43 ⟨rfl, hb⟩; refine ⟨_, rfl, ?_⟩; refine fK (bb_ BK358.1 hb) (ah (bl1_ HB.1 GE358.1) hb) ?_; clear hb BK358 HB; intro BK358 HB))
  go_ret2
  exact ⟨er_, bl1_ HB.1 GE358.1⟩
 replace H := sp_ H; obtain ⟨c4, H⟩ | ⟨c4, H⟩ := H
 ·
  have c4b0 := beq_iff_eq.mpr c4; have c4b1 := bne_eq_false_iff_eq.mpr c4; clear c4; replace H := gp_ H; obtain ⟨c5, H⟩ := H; have c5b0 := eq_true c5; have c5b1 := decide_eq_true c5
  try have c5b2 : (9223372036854775807 < 1 + a0_1.size) = False := eq_false (Nat.not_lt.2 c5)
  replace H := gp_ H; obtain ⟨c6, H⟩ := H; have c6b0 := eq_true c6; have c6b1 := decide_eq_true c6; (try (have c6b3 : (9223372036854775807 < 1 + a0_1.size + 1) = False := eq_false (Nat.not_lt.2 (by have h_ := c6; simp only [ByteArray.size_append] at h_; exact h_)))); (try (have c6b4 : (1 + a0_1.size + 1 ≤ 9223372036854775807) = True := eq_true (by have h_ := c6; simp only [ByteArray.size_append] at h_; exact h_)))
  try have c6b2 : (9223372036854775807 < ((⟨#[34]⟩ : ByteArray) ++ a0_1).size + 1) = False := eq_false (Nat.not_lt.2 c6)
  simp only [Option.some.injEq, Prod.mk.injEq] at H; obtain ⟨rfl, rfl⟩ := H
  go_enter Tryz.func44, Tryz.ntmps44
  go_wp2_with (first | ((with_reducible refine aA (N := 1) rfl ?_); refine bx_ (N := 1) (cs := #[.int .i64 a0_0, .string a0_1, .int .i64 a0_2, .int .i64 a0_3]) (t := 50) ?_; intro gb358 hg w7 hbox hb; refine df (ah (bl_ HB.1) hb) (hbox) (bz_ (w := w) hg (bl_ HB.1)) (bz_ (w := w) hg (bl_ HB.1)) ?_; clear HB; intro HB BK358 GW358 GE358; clear hb hbox hg; obtain ⟨hcz8_0, hcz8_1, hcz8_2, hcz8_3, hfz8_0, hfz8_1, hfz8_2, hfz8_3⟩ := cq4_ BK358.1) | ((with_reducible refine aj (f := 58) rfl ?_); refine gk_ (some 8) Tryz.func58 (aY.calls k a0_0 a0_1 a0_2 a0_3 true _ A2.1) ?_; rintro e w9 ⟨rfl, hb⟩; refine ⟨_, rfl, ?_⟩; refine fK (bb_ BK358.1 hb) (ah (bl1_ HB.1 GE358.1) hb) ?_; clear hb BK358 HB; intro BK358 HB; obtain ⟨hcz10_0, hcz10_1, hcz10_2, hcz10_3, hfz10_0, hfz10_1, hfz10_2, hfz10_3⟩ := cq4_ BK358.1))
  go_ret2
  exact ⟨er_, bl1_ HB.1 GE358.1⟩
 have c4b0 := beq_eq_false_iff_ne.mpr c4; have c4b1 := bne_iff_ne.mpr c4; replace H := (sp_ H).symm; obtain ⟨c11, H⟩ | ⟨c11, H⟩ := H
 ·
  have c11b0 := beq_eq_false_iff_ne.mpr c11; have c11b1 := bne_iff_ne.mpr c11; simp only [Option.some.injEq, Prod.mk.injEq] at H; obtain ⟨rfl, rfl⟩ := H
  go_enter Tryz.func44, Tryz.ntmps44
  go_wp2_with (first | ((with_reducible refine aA (N := 1) rfl ?_); refine bx_ (N := 1) (cs := #[.int .i64 a0_0, .string a0_1, .int .i64 a0_2, .int .i64 a0_3]) (t := 50) ?_; intro gb358 hg w37 hbox hb; refine df (ah (bl_ HB.1) hb) (hbox) (bz_ (w := w) hg (bl_ HB.1)) (bz_ (w := w) hg (bl_ HB.1)) ?_; clear HB; intro HB BK358 GW358 GE358; clear hb hbox hg; obtain ⟨hcz38_0, hcz38_1, hcz38_2, hcz38_3, hfz38_0, hfz38_1, hfz38_2, hfz38_3⟩ := cq4_ BK358.1) | ((with_reducible refine aj (f := 58) rfl ?_); refine gk_ (some 8) Tryz.func58 (aY.calls k a0_0 a0_1 a0_2 a0_3 true _ A2.1) ?_; rintro e w39 ⟨rfl, hb⟩; refine ⟨_, rfl, ?_⟩; refine fK (bb_ BK358.1 hb) (ah (bl1_ HB.1 GE358.1) hb) ?_; clear hb BK358 HB; intro BK358 HB; obtain ⟨hcz40_0, hcz40_1, hcz40_2, hcz40_3, hfz40_0, hfz40_1, hfz40_2, hfz40_3⟩ := cq4_ BK358.1))
  go_ret2
  exact ⟨er_, bl1_ HB.1 GE358.1⟩
 have c11b0 := beq_iff_eq.mpr c11; have c11b1 := bne_eq_false_iff_eq.mpr c11; clear c11; replace H := bn_ H; obtain ⟨t360, A12, H⟩ := H; (try dsimp only at H); replace H := bn_ H; obtain ⟨t361, A13, H⟩ := H; (try dsimp only at H); obtain ⟨ji14, hji14⟩ : ∃ j_ : Int, (wrap64 ((t360.size : Int) - 3)) = j_ := ⟨_, rfl⟩; replace H : (if 0 ≤ (ji14) then (if (ji14) ≤ (t360.size : Int) then ((cB.f (t360.extract ((ji14) : Int).toNat t360.size) (⟨#[48]⟩ : ByteArray)).bind fun t362 => (if t362.toList = ([] : List UInt8) then (some (t361, 0)) else (if t361.size + 1 ≤ 9223372036854775807 then (if (t361 ++ (⟨#[46]⟩ : ByteArray)).size + t362.size ≤ 9223372036854775807 then (some ((t361 ++ (⟨#[46]⟩ : ByteArray)) ++ t362, 0)) else (none)) else (none)))) else (none)) else (none)) = some (r1, r2) := by first | (rw [hji14] at H; exact H) | (simp only [hji14] at H ⊢; exact H)
 (try rw [hji14] at A2); (try rw [hji14] at A12); (try rw [hji14] at A13); have hji14w : (IntKind.i64.wrap ((t360.size : Int) - 3)) = ji14 := (cz _).trans hji14; replace H := gt_ H; obtain ⟨c15b0, c15b1, H⟩ := H; replace H := gt_ H; obtain ⟨c16b0, c16b1, H⟩ := H; replace H := bn_ H; obtain ⟨t362, A17, H⟩ := H; (try dsimp only at H); replace H := sp_ H; obtain ⟨c18, H⟩ | ⟨c18, H⟩ := H
 ·
  have c18b0 := beq_iff_eq.mpr c18; have c18b1 := bne_eq_false_iff_eq.mpr c18; clear c18; simp only [Option.some.injEq, Prod.mk.injEq] at H; obtain ⟨rfl, rfl⟩ := H
  go_enter Tryz.func44, Tryz.ntmps44
  go_wp2_with (first | ((with_reducible refine aA (N := 1) rfl ?_); refine bx_ (N := 1) (cs := #[.int .i64 a0_0, .string a0_1, .int .i64 a0_2, .int .i64 a0_3]) (t := 50) ?_; intro gb358 hg w19 hbox hb; refine df (ah (bl_ HB.1) hb) (hbox) (bz_ (w := w) hg (bl_ HB.1)) (bz_ (w := w) hg (bl_ HB.1)) ?_; clear HB; intro HB BK358 GW358 GE358; clear hb hbox hg; obtain ⟨hcz20_0, hcz20_1, hcz20_2, hcz20_3, hfz20_0, hfz20_1, hfz20_2, hfz20_3⟩ := cq4_ BK358.1) | ((with_reducible refine aj (f := 58) rfl ?_); refine gk_ (some 8) Tryz.func58 (aY.calls k a0_0 a0_1 a0_2 a0_3 true _ A2.1) ?_; rintro e w21 ⟨rfl, hb⟩; refine ⟨_, rfl, ?_⟩; refine fK (bb_ BK358.1 hb) (ah (bl1_ HB.1 GE358.1) hb) ?_; clear hb BK358 HB; intro BK358 HB; obtain ⟨hcz22_0, hcz22_1, hcz22_2, hcz22_3, hfz22_0, hfz22_1, hfz22_2, hfz22_3⟩ := cq4_ BK358.1) | ((with_reducible refine aj (f := 62) rfl ?_); refine gk_ (some 23) Tryz.func62 (bW.calls (wrap64 (a0_2 + 1000)) 10 t360 _ ?side1 A12.1) ?_; (case side1 => exact Gl.below hG (bl1_ HB.1 GE358.1)); rintro e w23 ⟨rfl, hb⟩; refine ⟨_, rfl, ?_⟩; refine fK (bb_ BK358.1 hb) (ah (bl1_ HB.1 GE358.1) hb) ?_; clear hb BK358 HB; intro BK358 HB; obtain ⟨hcz24_0, hcz24_1, hcz24_2, hcz24_3, hfz24_0, hfz24_1, hfz24_2, hfz24_3⟩ := cq4_ BK358.1) | ((with_reducible refine aj (f := 62) rfl ?_); refine gk_ (some 27) Tryz.func62 (bW.calls (wrap64 (Int.tdiv a0_2 1000)) 10 t361 _ ?side1 A13.1) ?_; (case side1 => exact Gl.below hG (bl1_ HB.1 GE358.1)); rintro e w25 ⟨rfl, hb⟩; refine ⟨_, rfl, ?_⟩; refine fK (bb_ BK358.1 hb) (ah (bl1_ HB.1 GE358.1) hb) ?_; clear hb BK358 HB; intro BK358 HB) | ((with_reducible refine aj (f := 63) rfl ?_); refine dW (some 33) rfl rfl Tryz.func63 (by kernel_rfl) rfl #[.string (t360.extract ((ji14) : Int).toNat t360.size), .string (⟨#[48]⟩ : ByteArray)] rfl (by (try simp only [List.map_toArray, List.map_cons, List.map_nil]); first | done | (simp only [hji14]; rfl) | rfl | (simp only [List.length_drop, List.length_take]; rfl)) ?_; (with_reducible refine (cB.calls (t360.extract ((ji14) : Int).toNat t360.size) (⟨#[48]⟩ : ByteArray) t362 _ A17.1).mono ?_); rintro e w26 ⟨rfl, hb⟩; refine ⟨_, rfl, ?_⟩; refine fK (bb_ BK358.1 hb) (ah (bl1_ HB.1 GE358.1) hb) ?_; clear hb BK358 HB; intro BK358 HB))
  go_ret2
  exact ⟨by first | rfl | (simp [eu, ek] <;> rfl) | (simp only [← hji14]; first | rfl | (simp [eu, ek] <;> rfl)) | (simp [*, eu, ek] <;> rfl), bl1_ HB.1 GE358.1⟩
 have c18b0 := beq_eq_false_iff_ne.mpr c18; have c18b1 := bne_iff_ne.mpr c18; replace H := gp_ H; obtain ⟨c27, H⟩ := H; have c27b0 := eq_true c27; have c27b1 := decide_eq_true c27
 try have c27b2 : (9223372036854775807 < t361.size + 1) = False := eq_false (Nat.not_lt.2 c27)
 replace H := gp_ H; obtain ⟨c28, H⟩ := H; have c28b0 := eq_true c28; have c28b1 := decide_eq_true c28; (try (have c28b3 : (9223372036854775807 < t361.size + 1 + t362.size) = False := eq_false (Nat.not_lt.2 (by have h_ := c28; simp only [ByteArray.size_append] at h_; exact h_)))); (try (have c28b4 : (t361.size + 1 + t362.size ≤ 9223372036854775807) = True := eq_true (by have h_ := c28; simp only [ByteArray.size_append] at h_; exact h_)))
 try have c28b2 : (9223372036854775807 < (t361 ++ (⟨#[46]⟩ : ByteArray)).size + t362.size) = False := eq_false (Nat.not_lt.2 c28)
 simp only [Option.some.injEq, Prod.mk.injEq] at H; obtain ⟨rfl, rfl⟩ := H
 go_enter Tryz.func44, Tryz.ntmps44
 go_wp2_with (first | ((with_reducible refine aA (N := 1) rfl ?_); refine bx_ (N := 1) (cs := #[.int .i64 a0_0, .string a0_1, .int .i64 a0_2, .int .i64 a0_3]) (t := 50) ?_; intro gb358 hg w29 hbox hb; refine df (ah (bl_ HB.1) hb) (hbox) (bz_ (w := w) hg (bl_ HB.1)) (bz_ (w := w) hg (bl_ HB.1)) ?_; clear HB; intro HB BK358 GW358 GE358; clear hb hbox hg; obtain ⟨hcz30_0, hcz30_1, hcz30_2, hcz30_3, hfz30_0, hfz30_1, hfz30_2, hfz30_3⟩ := cq4_ BK358.1) | ((with_reducible refine aj (f := 58) rfl ?_); refine gk_ (some 8) Tryz.func58 (aY.calls k a0_0 a0_1 a0_2 a0_3 true _ A2.1) ?_; rintro e w31 ⟨rfl, hb⟩; refine ⟨_, rfl, ?_⟩; refine fK (bb_ BK358.1 hb) (ah (bl1_ HB.1 GE358.1) hb) ?_; clear hb BK358 HB; intro BK358 HB; obtain ⟨hcz32_0, hcz32_1, hcz32_2, hcz32_3, hfz32_0, hfz32_1, hfz32_2, hfz32_3⟩ := cq4_ BK358.1) | ((with_reducible refine aj (f := 62) rfl ?_); refine gk_ (some 23) Tryz.func62 (bW.calls (wrap64 (a0_2 + 1000)) 10 t360 _ ?side1 A12.1) ?_; (case side1 => exact Gl.below hG (bl1_ HB.1 GE358.1)); rintro e w33 ⟨rfl, hb⟩; refine ⟨_, rfl, ?_⟩; refine fK (bb_ BK358.1 hb) (ah (bl1_ HB.1 GE358.1) hb) ?_; clear hb BK358 HB; intro BK358 HB; obtain ⟨hcz34_0, hcz34_1, hcz34_2, hcz34_3, hfz34_0, hfz34_1, hfz34_2, hfz34_3⟩ := cq4_ BK358.1) | ((with_reducible refine aj (f := 62) rfl ?_); refine gk_ (some 27) Tryz.func62 (bW.calls (wrap64 (Int.tdiv a0_2 1000)) 10 t361 _ ?side1 A13.1) ?_; (case side1 => exact Gl.below hG (bl1_ HB.1 GE358.1)); rintro e w35 ⟨rfl, hb⟩; refine ⟨_, rfl, ?_⟩; refine fK (bb_ BK358.1 hb) (ah (bl1_ HB.1 GE358.1) hb) ?_; clear hb BK358 HB; intro BK358 HB) | ((with_reducible refine aj (f := 63) rfl ?_); refine dW (some 33) rfl rfl Tryz.func63 (by kernel_rfl) rfl #[.string (t360.extract ((ji14) : Int).toNat t360.size), .string (⟨#[48]⟩ : ByteArray)] rfl (by (try simp only [List.map_toArray, List.map_cons, List.map_nil]); first | done | (simp only [hji14]; rfl) | rfl | (simp only [List.length_drop, List.length_take]; rfl)) ?_; (with_reducible refine (cB.calls (t360.extract ((ji14) : Int).toNat t360.size) (⟨#[48]⟩ : ByteArray) t362 _ A17.1).mono ?_); rintro e w36 ⟨rfl, hb⟩; refine ⟨_, rfl, ?_⟩; refine fK (bb_ BK358.1 hb) (ah (bl1_ HB.1 GE358.1) hb) ?_; clear hb BK358 HB; intro BK358 HB))
 go_ret2
 exact ⟨by first | rfl | (simp [eu, ek] <;> rfl) | (simp only [← hji14]; first | rfl | (simp [eu, ek] <;> rfl)) | (simp [*, eu, ek] <;> rfl), bl1_ HB.1 GE358.1⟩
end Go.Proofs.YtkifdadhojbohaaGreatDoor.Pr
namespace Go.Proofs.YtkifdadhojbohaaGreatDoor.Pu
open Go.RowKit Go.Proofs.YtkifdadhojbohaaGreatDoor Go.Proofs.YtkifdadhojbohaaGreatDoor.Pr Go.Proofs.YtkifdadhojbohaaGreatDoorW.PrintWords Go.Proofs.YtkifdadhojbohaaGreatDoorW.PrintLast
theorem isWord_f (s : ByteArray) (hs : s.size ≤ 1000000) : Ev (fun k => bL.f k s) ((lst s).all bQ && wordL (lst s) == 0) := by
  have loop : ∀ (d i : Nat) (l : List UInt8), i ≤ s.size → s.size - i = d → (lst s).drop i = l → Ev (fun k => bL.l0 k s s.size i) (l.all bQ && wordL (lst s) == 0) := by
    intro d
    induction d with
    | zero =>
      intro i l hi hd hl
      obtain rfl : i = s.size := by omega
      obtain rfl : l = [] := by rw [← hl]; exact List.drop_eq_nil_of_le (by rw [aI]; omega)
      refine Ev.succ ?_
      simp only [bL.l0]
      exact Ev.ifn (by omega) (Ev.bind (word_f s hs) (Ev.ret (by simp)))
    | succ d ih =>
      intro i l hi hd hl
      cases l with
      | nil => exact absurd (at_nil hi hl) (by omega)
      | cons c l =>
        obtain ⟨h1, h2, h3⟩ := gp hl
        refine Ev.succ ?_
        simp only [bL.l0]
        rw [h2, bU i (by omega)]
        refine Ev.ifp (by omega) (Ev.ifp (by omega) (Ev.ifp (by omega) (Ev.val (isRun_f c) ?_)))
        by_cases hr : bQ c = true
        · refine Ev.ifp hr ?_
          have := ih (i + 1) l (by omega) (by omega) h3
          rw [List.all_cons, hr, Bool.true_and]
          exact this
        · refine Ev.ifn hr (Ev.ret ?_)
          rw [Bool.not_eq_true] at hr
          rw [List.all_cons, hr]; rfl
  unfold bL.f
  exact loop _ 0 (lst s) (by omega) rfl rfl
theorem list1 (s : ByteArray) (h : s.size = 1) : ∃ c, lst s = [c] ∧ bt s 0 = (c.toNat : Int) := by
  obtain ⟨c, hc, hb⟩ := lu (s := s) (by omega)
  have hl : (lst s).length = 1 := by rw [aI]; exact h
  match hx : lst s, hl with
  | [x], _ =>
    rw [hx] at hc
    simp only [List.head?_cons, Option.some.injEq] at hc
    subst hc
    exact ⟨x, rfl, hb⟩
theorem valid_f (k0 : Int) (s : ByteArray) (hs : s.size ≤ 1000000) (n a : Int) : Ev (fun k => aY.f k k0 s n a) (dR k0 (lst s) n) := by
  have j0 : Ev (fun k => aY.j0 k false k0 s n a) (dR k0 (lst s) (if k0 = 2 then n else 0)) := by
    refine Ev.succ ?_
    simp only [aY.j0]
    refine Ev.ifn (by decide) ?_
    unfold dR
    by_cases h1 : k0 = 1
    · subst h1
      refine Ev.ifp rfl ?_
      by_cases h : s.toList = []
      · refine Ev.ifp h (Ev.ret ?_)
        rw [dx] at h
        rw [h]; rfl
      · refine Ev.ifn h (Ev.bind (isWord_f s hs) (Ev.ret ?_))
        simp
    · refine Ev.ifn h1 ?_
      by_cases h2 : k0 = 2
      · subst h2
        refine Ev.ifp rfl ?_
        by_cases h : s.toList = []
        · refine Ev.ifp h ?_
          rw [dx] at h
          by_cases h3 : 0 ≤ n
          · exact Ev.ifp h3 (Ev.ret (by simp [h, h3]))
          · exact Ev.ifn h3 (Ev.ret (by simp [h, h3]))
        · refine Ev.ifn h (Ev.ret ?_)
          rw [dx] at h
          simp [h]
      · refine Ev.ifn h2 ?_
        by_cases h3 : k0 = 3
        · subst h3
          exact Ev.ifp rfl (Ev.bind (title_f s hs) (Ev.ret (by simp)))
        · refine Ev.ifn h3 ?_
          by_cases h4 : k0 = 4
          · subst h4
            refine Ev.ifp rfl ?_
            by_cases h : (s.size : Int) = 1
            · obtain ⟨c, hc, hb⟩ := list1 s (by omega)
              refine Ev.ifp h (Ev.val jR (Ev.ifp (by omega) (Ev.ifp (by rw [hb]; omega) (Ev.ifp (by rw [hb]; exact jS c) (Ev.ret ?_)))))
              rw [hb, jT, hc]
              simp
              by_cases h5 : kindOf c.toNat = 5
              · simp [h5]
              · rw [beq_eq_false_iff_ne.2 h5, beq_eq_false_iff_ne]; omega
            · refine Ev.ifn h (Ev.ret ?_)
              have : ¬ (lst s).length = 1 := by rw [aI]; omega
              simp [this]
          · refine Ev.ifn h4 ?_
            by_cases h5 : k0 = 5
            · subst h5
              exact Ev.ifp rfl (Ev.ret (by rw [dx]; simp))
            · exact Ev.ifn h5 (Ev.ret (by simp [h1, h2, h3, h4, h5]))
  unfold aY.f
  by_cases h2 : k0 = 2
  · rw [if_pos h2] at j0
    exact Ev.ifp h2 j0
  · rw [if_neg h2] at j0
    refine Ev.ifn h2 ?_
    by_cases hn : n = 0
    · subst hn; exact j0
    · rw [show (n != 0) = true by simpa using hn]
      refine Ev.succ ?_
      simp only [aY.j0]
      exact Ev.ifp (by simp) (Ev.ret (by unfold dR; rw [if_pos ⟨h2, hn⟩]))
theorem Spell_num (m : Nat) (hm : m ≤ 1000000000) (f : ByteArray → ByteArray → Option (ByteArray × Int)) (hf : f (str (Lib.decDigits (m / 1000))) (str (cutZ (three (m % 1000)))) = some (str (numS m), 0)) :
    ((bW.f (wrap64 ((m : Int) + 1000)) 10).bind fun t360 => ((bW.f (wrap64 (Int.tdiv (m : Int) 1000)) 10).bind fun t361 => (if 0 ≤ (wrap64 ((t360.size : Int) - 3)) then (if (wrap64 ((t360.size : Int) - 3)) ≤ (t360.size : Int) then ((cB.f (t360.extract ((wrap64 ((t360.size : Int) - 3)) : Int).toNat t360.size) (⟨#[48]⟩ : ByteArray)).bind fun t362 => f t361 t362) else (none)) else (none)))) = some (str (numS m), 0) := by
  have e1 : wrap64 (Int.tdiv (m : Int) 1000) = ((m / 1000 : Nat) : Int) := by
    rw [show Int.tdiv (m : Int) 1000 = ((m / 1000 : Nat) : Int) from rfl, gq (by omega) (by omega)]
  have e2 : wrap64 ((m : Int) + 1000) = (((m / 1000 + 1) * 1000 + m % 1000 : Nat) : Int) := by
    rw [gq (by omega) (by omega)]; omega
  have hl := dec_len (m / 1000 + 1) (by omega)
  have hl2 := (dec_spec (m / 1000 + 1)).2.2.1
  rw [e1, e2, fmt_f _ (by omega), fmt_f _ (by omega), dec_thousand _ (by omega) _ (by omega)]
  simp only [Option.bind_some]
  have hsz : (str (Lib.decDigits (m / 1000 + 1) ++ three (m % 1000))).size = (Lib.decDigits (m / 1000 + 1)).length + 3 := by
    rw [dY, List.length_append]; rfl
  rw [hsz, gq (by omega) (by omega), show (((Lib.decDigits (m / 1000 + 1)).length + 3 : Nat) : Int) - 3 = ((Lib.decDigits (m / 1000 + 1)).length : Int) by omega, if_pos (by omega), if_pos (by omega), Int.toNat_natCast]
  have hx : (str (Lib.decDigits (m / 1000 + 1) ++ three (m % 1000))).extract (Lib.decDigits (m / 1000 + 1)).length ((Lib.decDigits (m / 1000 + 1)).length + 3) = str (three (m % 1000)) := by
    apply ic
    rw [eO, gM, gM, List.take_of_length_le (by rw [List.length_append]; exact Nat.le_refl _), List.drop_left]
  rw [hx]
  have ht : cB.f (str (three (m % 1000))) (⟨#[48]⟩ : ByteArray) = some (str (cutZ (three (m % 1000)))) := by
    unfold cB.f
    rw [if_pos ⟨rfl, by rw [dY]; simp [three]⟩]
    rfl
  rw [ht]
  exact hf
theorem Spell_f (k0 : Int) (s : ByteArray) (hs : s.size ≤ 1000000) (n a : Int) : Ev (fun k => dN.f k k0 s n a) (if dR k0 (lst s) n = true then (str (dL k0 (lst s) n), 0) else (⟨#[]⟩, 1)) := by
  unfold dN.f
  refine Ev.bind (valid_f k0 s hs n a) ?_
  cases hv : dR k0 (lst s) n with
  | false => exact Ev.ifn (by simp) (Ev.ret (by simp))
  | true =>
    refine Ev.ifp rfl ?_
    rw [if_pos rfl]
    by_cases h3 : k0 = 3
    · subst h3
      refine Ev.ifp rfl (Ev.ifp (by omega) (Ev.ifp ?_ (Ev.ret ?_)))
      · rw [ByteArray.size_append]; show 1 + s.size + 1 ≤ _; omega
      · congr 1
    · refine Ev.ifn h3 ?_
      by_cases h2 : k0 = 2
      · subst h2
        refine Ev.ifp rfl ?_
        have hv2 := hv
        unfold dR at hv2
        rw [if_neg (by rintro ⟨h, _⟩; exact h rfl), if_neg (by decide), if_pos rfl, Bool.and_eq_true, Bool.and_eq_true, decide_eq_true_eq, decide_eq_true_eq, beq_iff_eq] at hv2
        obtain ⟨⟨h0, g0⟩, g1⟩ := hv2
        obtain ⟨m, rfl⟩ : ∃ m : Nat, n = (m : Int) := ⟨n.toNat, by omega⟩
        have e : dL 2 (lst s) (m : Int) = numS m := by
          unfold dL
          rw [if_neg (by decide), if_pos rfl, if_pos ⟨g0, g1⟩]; rfl
        rw [e]
        have hl := numS_len m (by omega)
        refine Ev.const (Spell_num m (by omega) _ ?_)
        have hlen : (numS m).length = (Lib.decDigits (m / 1000)).length + (if cutZ (three (m % 1000)) = [] then 0 else (cutZ (three (m % 1000))).length + 1) := by
          unfold numS; rw [List.length_append]; split <;> simp
        by_cases hz : cutZ (three (m % 1000)) = []
        · rw [if_pos (by rw [dx, gM]; exact hz)]
          unfold numS; rw [if_pos hz, List.append_nil]
        · rw [if_neg hz] at hlen
          rw [if_neg (by rw [dx, gM]; exact hz), show (⟨#[46]⟩ : ByteArray) = str [46] from rfl, str_append, str_append, dY, dY, dY, if_pos (by omega), if_pos (by rw [List.length_append]; simp; omega)]
          unfold numS; rw [if_neg hz]; simp
      · refine Ev.ifn h2 (Ev.ret ?_)
        unfold dL
        rw [if_neg h3, if_neg h2]
        by_cases h14 : k0 = 1 ∨ k0 = 4
        · rw [if_pos h14, str_lst]
        · rw [if_neg h14]
          have hv2 := hv
          unfold dR at hv2
          by_cases hn : k0 ≠ 2 ∧ n ≠ 0
          · rw [if_pos hn] at hv2; cases hv2
          · rw [if_neg hn, if_neg (fun h => h14 (.inl h)), if_neg h2, if_neg h3, if_neg (fun h => h14 (.inr h))] at hv2
            by_cases h5 : k0 = 5
            · rw [if_pos h5, beq_iff_eq] at hv2
              congr 1
              apply ic; rw [hv2]; rfl
            · rw [if_neg h5] at hv2; cases hv2
end Go.Proofs.YtkifdadhojbohaaGreatDoor.Pu
namespace Go.Proofs.YtkifdadhojbohaaGreatDoor.Pr
open Go.Proofs.YtkifdadhojbohaaGreatDoor
open Go.RowKit Go.Proofs.YtkifdadhojbohaaGreatDoorW.PrintWords Go.Proofs.YtkifdadhojbohaaGreatDoorW.PrintLast Go.Proofs.YtkifdadhojbohaaGreatDoorW.PrintMore
attribute [local go_sem] fU fQ gL gK eT eQ fT fP
mutual
def aN.l0 : Nat → List (S41) → Int → Int → Option (Bool)
 | 0, _, _, _ => none
 | k + 1, x7, x8, x9 => if x9 < x8 then (if 0 ≤ x9 then (if x9 < (x7.length : Int) then ((aY.f k 1 ((au x7 x9).f0) 0 0).bind fun t190 => (if t190 = true then (if ((au x7 x9).f2 = true) then (aN.l1 k x7 x8 x9 ((au x7 x9).f1) (((au x7 x9).f1).length : Int) 0 ((au x7 x9).f0) ((au x7 x9).f1) ((au x7 x9).f2) ((au x7 x9).f3) ((au x7 x9).f4)) else (if (((au x7 x9).f3).length : Int) > 0 then (some false) else (aN.l1 k x7 x8 x9 ((au x7 x9).f1) (((au x7 x9).f1).length : Int) 0 ((au x7 x9).f0) ((au x7 x9).f1) ((au x7 x9).f2) ((au x7 x9).f3) ((au x7 x9).f4)))) else (some false))) else (none)) else (none)) else (some true)
def aN.l1 : Nat → List (S41) → Int → Int → List (S46) → Int → Int → ByteArray → List (S46) → Bool → List (S41) → Int → Option (Bool)
 | 0, _, _, _, _, _, _, _, _, _, _, _ => none
 | k + 1, x7, x8, x9, x30, x31, x32, x190000, x190001, x190002, x190003, x190004 => if x32 < x31 then (if 0 ≤ x32 then (if x32 < (x30.length : Int) then ((dM.f ((ag x30 x32).f0) ((ag x30 x32).f1) ((ag x30 x32).f2) ((ag x30 x32).f3)).bind fun t193 => (if t193 = true then ((aY.f k ((ag x30 x32).f0) ((ag x30 x32).f1) ((ag x30 x32).f2) ((ag x30 x32).f3)).bind fun t194 => (if t194 = true then (aN.l1 k x7 x8 x9 x30 x31 (wrap64 (x32 + 1)) x190000 x190001 x190002 x190003 x190004) else (some false))) else (some false))) else (none)) else (none)) else ((aN.f k x190003).bind fun t195 => (if t195 = true then (aN.l0 k x7 x8 (wrap64 (x9 + 1))) else (some false)))
def aN.f : Nat → List (S41) → Option (Bool)
 | 0, _ => none
 | k + 1, l0 => aN.l0 k l0 (l0.length : Int) 0
end
theorem aN.mono_l : ∀ k, (∀ y0, LeO (aN.f k y0) (aN.f (k + 1) y0)) ∧ (∀ y0 y1 y2, LeO (aN.l0 k y0 y1 y2) (aN.l0 (k + 1) y0 y1 y2)) ∧ (∀ y0 y1 y2 y3 y4 y5 y6 y7 y8 y9 y10, LeO (aN.l1 k y0 y1 y2 y3 y4 y5 y6 y7 y8 y9 y10) (aN.l1 (k + 1) y0 y1 y2 y3 y4 y5 y6 y7 y8 y9 y10))
 | 0 => ⟨fun _ r h => by simp [aN.f] at h, fun _ _ _ r h => by simp [aN.l0] at h, fun _ _ _ _ _ _ _ _ _ _ _ r h => by simp [aN.l1] at h⟩
 | k + 1 => by
  obtain ⟨ih0, ih1, ih2⟩ := aN.mono_l k
  refine ⟨?_, ?_, ?_⟩
  ·
   intro y0
   unfold aN.f
   repeat' first
   | (with_reducible exact LeO.refl _)
   | exact ih0 _
   | exact ih1 _ _ _
   | exact ih2 _ _ _ _ _ _ _ _ _ _ _
   | exact aY.mono _ _ _ _ _
   | exact LeO.none _
   | refine LeO.ite ?_ ?_
   | refine LeO.bind ?_ (fun _ => ?_)
  ·
   intro y0 y1 y2
   unfold aN.l0
   repeat' first
   | (with_reducible exact LeO.refl _)
   | exact ih0 _
   | exact ih1 _ _ _
   | exact ih2 _ _ _ _ _ _ _ _ _ _ _
   | exact aY.mono _ _ _ _ _
   | exact LeO.none _
   | refine LeO.ite ?_ ?_
   | refine LeO.bind ?_ (fun _ => ?_)
  ·
   intro y0 y1 y2 y3 y4 y5 y6 y7 y8 y9 y10
   unfold aN.l1
   repeat' first
   | (with_reducible exact LeO.refl _)
   | exact ih0 _
   | exact ih1 _ _ _
   | exact ih2 _ _ _ _ _ _ _ _ _ _ _
   | exact aY.mono _ _ _ _ _
   | exact LeO.none _
   | refine LeO.ite ?_ ?_
   | refine LeO.bind ?_ (fun _ => ?_)
theorem aN.mono : ∀ a0 k, LeO (aN.f k a0) (aN.f (k + 1) a0) := by
 intro a0 k
 obtain ⟨ih0, ih1, ih2⟩ := aN.mono_l k
 exact ih0 a0
theorem aN.calls (k : Nat) : ∀ (A0 : Option Addr) (c0 : Nat) (l0 : List (S41)) (r : Bool) (w : World) (hr0 : Kd.C k41 w A0 l0.length l0) (hc0 : l0.length ≤ c0) (h : aN.f k l0 = some r),
  Calls Tryz.prog 39 #[.slice A0 l0.length c0] w fun e w' => e = .returned (.bool r) ∧ Below w.heap.size w w' := by
 induction k using Nat.strongRecOn with
 | _ k ih =>
 intro A0 c0 l0 r w hr0 hc0 h
 cases k with
 | zero => exact absurd h (by simp [aN.f])
 | succ k =>
 simp only [aN.f] at h; have hu41 := Tryz.underlying25; have hu46 := Tryz.underlying50; have HR0 := af.mk hr0; have HC0 := af.mk hc0; clear hr0 hc0; have HB := af.mk (Below.refl w.heap.size w); have H : (aN.l0 k l0 (l0.length : Int) 0) = some r := h; clear h; have H' := af.mk H; clear H
 go_enter Tryz.func39, Tryz.ntmps39
 go_wp2
 go_loopg [9] k (fun kq v9 w' => ∃ (x9_1 : Int), v9 = .int .i64 x9_1 ∧ af (aN.l0 kq l0 (l0.length : Int) x9_1 = some r) ∧ af (kq ≤ k) ∧ af (Below w.heap.size w w'))
 case atStart => exact ⟨(0), sr_, H', ⟨Nat.le_refl _⟩, ⟨bl_ HB.1⟩⟩
 case round =>
  clear H'; obtain ⟨x9_1, rfl, HA, HK1, HB⟩ := hrel; obtain _ | k1 := gk
  · exact absurd HA.1 (by simp [aN.l0])
  have H := HA.1; clear HA; simp only [aN.l0] at H; replace H := (sd_ H).symm; obtain ⟨c2b0, H⟩ | ⟨c2b0, H⟩ := H
  ·
   obtain rfl := Option.some.inj H
   go_wp2
   go_ret
   exact ⟨er_, bl_ HB.1⟩
  replace H := gd_ H; obtain ⟨c3b0, H⟩ := H; replace H := gd_ H; obtain ⟨c4b0, H⟩ := H; replace H := bn_ H; obtain ⟨t190, A5, H⟩ := H; (try dsimp only at H); replace H := (sb_ H).symm; obtain ⟨rfl, H⟩ | ⟨rfl, H⟩ := H
  ·
   obtain rfl := Option.some.inj H; have p188 : 0 ≤ (x9_1 : Int) := dt_; have q188 : x9_1 < (l0.length : Int) := dt_; obtain ⟨ad188, A188_1, c188_1, A188_3, c188_3, e188, hx188_0, hx188_1, hx188_2, hx188_3, hx188_4, hl188_1, hi188_1, hl188_3, hi188_3⟩ := iQ HR0.1 x9_1 p188 q188; cases e188; replace hx188_0 := ae HB.1 hx188_0; replace hx188_1 := ae HB.1 hx188_1; replace hx188_2 := ae HB.1 hx188_2; replace hx188_3 := ae HB.1 hx188_3; replace hx188_4 := ae HB.1 hx188_4; have HR188_1 := af.mk hi188_1; have HC188_1 := af.mk hl188_1; clear hi188_1 hl188_1; have HR188_3 := af.mk hi188_3; have HC188_3 := af.mk hl188_3; clear hi188_3 hl188_3; replace p188 := eq_true p188; replace q188 := eq_true q188
   go_wp2_with (first | ((with_reducible refine aA (N := 4) rfl ?_); (try (refine bE (by rfl) ?_; dsimp only)); refine bx_ (N := 4) (cs := #[.string (⟨#[]⟩ : ByteArray), .slice none 0 0, .bool false, .slice none 0 0, .int .i64 0]) (t := 25) ?_; intro gb189 hg w80 hbox hb; refine df (ah (bl_ HB.1) hb) (hbox) (bz_ (w := w) hg (bl_ HB.1)) (bz_ (w := w) hg (bl_ HB.1)) ?_; clear HB; intro HB BK189 GW189 GE189; clear hb hbox hg; obtain ⟨hcz81_0, hcz81_1, hcz81_2, hcz81_3, hcz81_4, hfz81_0, hfz81_1, hfz81_2, hfz81_3, hfz81_4⟩ := cq5_ BK189.1) | ((with_reducible refine aj (f := 58) rfl ?_); refine gk_ (some 16) Tryz.func58 (aY.calls k1 1 ((au l0 x9_1).f0) 0 0 false _ A5.1) ?_; rintro e w82 ⟨rfl, hb⟩; refine ⟨_, rfl, ?_⟩; refine fK (aZ (g := gb189) (o := .cells #[.string ((au l0 x9_1).f0), .slice A188_1 ((au l0 x9_1).f1).length c188_1, .bool ((au l0 x9_1).f2), .slice A188_3 ((au l0 x9_1).f3).length c188_3, .int .i64 ((au l0 x9_1).f4)] 25 (0, 0)) (ik (bk_ BK189.1)) hb) (ah (bl1_ HB.1 GE189.1) hb) ?_; clear hb BK189 HB; intro BK189 HB))
   go_ret
   exact ⟨er_, bl1_ HB.1 GE189.1⟩
  obtain ⟨bq7, hbq7⟩ : ∃ b_ : Bool, b_ = ((au l0 x9_1).f2) := ⟨_, rfl⟩; replace H : (if (bq7 = true) then (aN.l1 k1 l0 (l0.length : Int) x9_1 ((au l0 x9_1).f1) (((au l0 x9_1).f1).length : Int) 0 ((au l0 x9_1).f0) ((au l0 x9_1).f1) bq7 ((au l0 x9_1).f3) ((au l0 x9_1).f4)) else (if (((au l0 x9_1).f3).length : Int) > 0 then (some false) else (aN.l1 k1 l0 (l0.length : Int) x9_1 ((au l0 x9_1).f1) (((au l0 x9_1).f1).length : Int) 0 ((au l0 x9_1).f0) ((au l0 x9_1).f1) bq7 ((au l0 x9_1).f3) ((au l0 x9_1).f4)))) = some r := by rw [← hbq7] at H; exact H
  have Nbq7 := af.mk hbq7; clear hbq7
  by_cases c8 : (bq7 = true)
  ·
   subst c8; have H1 : (aN.l1 k1 l0 (l0.length : Int) x9_1 ((au l0 x9_1).f1) (((au l0 x9_1).f1).length : Int) 0 ((au l0 x9_1).f0) ((au l0 x9_1).f1) true ((au l0 x9_1).f3) ((au l0 x9_1).f4)) = some r := by rw [if_pos rfl] at H; exact H
   clear H; have H := H1; clear H1; have H' := af.mk H; clear H; have p188 : 0 ≤ (x9_1 : Int) := dt_; have q188 : x9_1 < (l0.length : Int) := dt_; obtain ⟨ad188, A188_1, c188_1, A188_3, c188_3, e188, hx188_0, hx188_1, hx188_2, hx188_3, hx188_4, hl188_1, hi188_1, hl188_3, hi188_3⟩ := iQ HR0.1 x9_1 p188 q188; (try rw [← Nbq7.1] at hx188_2); cases e188; replace hx188_0 := ae HB.1 hx188_0; replace hx188_1 := ae HB.1 hx188_1; replace hx188_2 := ae HB.1 hx188_2; replace hx188_3 := ae HB.1 hx188_3; replace hx188_4 := ae HB.1 hx188_4; have HR188_1 := af.mk hi188_1; have HC188_1 := af.mk hl188_1; clear hi188_1 hl188_1; have HR188_3 := af.mk hi188_3; have HC188_3 := af.mk hl188_3; clear hi188_3 hl188_3; replace p188 := eq_true p188; replace q188 := eq_true q188
   go_wp2_with (first | ((with_reducible refine aA (N := 4) rfl ?_); (try (refine bE (by rfl) ?_; dsimp only)); refine bx_ (N := 4) (cs := #[.string (⟨#[]⟩ : ByteArray), .slice none 0 0, .bool false, .slice none 0 0, .int .i64 0]) (t := 25) ?_; intro gb189 hg w9 hbox hb; refine df (ah (bl_ HB.1) hb) (hbox) (bz_ (w := w) hg (bl_ HB.1)) (bz_ (w := w) hg (bl_ HB.1)) ?_; clear HB; intro HB BK189 GW189 GE189; clear hb hbox hg; obtain ⟨hcz10_0, hcz10_1, hcz10_2, hcz10_3, hcz10_4, hfz10_0, hfz10_1, hfz10_2, hfz10_3, hfz10_4⟩ := cq5_ BK189.1) | ((with_reducible refine aj (f := 58) rfl ?_); refine gk_ (some 16) Tryz.func58 (aY.calls k1 1 ((au l0 x9_1).f0) 0 0 true _ A5.1) ?_; rintro e w11 ⟨rfl, hb⟩; refine ⟨_, rfl, ?_⟩; refine fK (aZ (g := gb189) (o := .cells #[.string ((au l0 x9_1).f0), .slice A188_1 ((au l0 x9_1).f1).length c188_1, .bool true, .slice A188_3 ((au l0 x9_1).f3).length c188_3, .int .i64 ((au l0 x9_1).f4)] 25 (0, 0)) (ik (bk_ BK189.1)) hb) (ah (bl1_ HB.1 GE189.1) hb) ?_; clear hb BK189 HB; intro BK189 HB; obtain ⟨hcz12_0, hcz12_1, hcz12_2, hcz12_3, hcz12_4, hfz12_0, hfz12_1, hfz12_2, hfz12_3, hfz12_4⟩ := cq5_ BK189.1))
   go_loopg [32] k1 (fun kq v32 w' => ∃ (x32_2 : Int), v32 = .int .i64 x32_2 ∧ af (aN.l1 kq l0 (l0.length : Int) x9_1 ((au l0 x9_1).f1) (((au l0 x9_1).f1).length : Int) x32_2 ((au l0 x9_1).f0) ((au l0 x9_1).f1) true ((au l0 x9_1).f3) ((au l0 x9_1).f4) = some r) ∧ af (kq ≤ k1) ∧ af (w'.heap[gb189]? = some (.cells #[.string ((au l0 x9_1).f0), (.slice A188_1 ((au l0 x9_1).f1).length c188_1), .bool true, (.slice A188_3 ((au l0 x9_1).f3).length c188_3), .int .i64 ((au l0 x9_1).f4)] 25 (0, 0))) ∧ af (Below w.heap.size w w'))
   case atStart => exact ⟨(0), sr_, H', ⟨Nat.le_refl _⟩, ⟨bk_ BK189.1⟩, ⟨bl1_ HB.1 GE189.1⟩⟩
   case round =>
    clear H'; (try clear c2); (try clear c2b0); (try clear c3); (try clear c3b0); (try clear c4); (try clear c4b0); (try clear c6); (try clear c8); (try clear hcz10_0); (try clear hcz10_1); (try clear hcz10_2); (try clear hcz10_3); (try clear hcz10_4); (try clear hcz12_0); (try clear hcz12_1); (try clear hcz12_2); (try clear hcz12_3); (try clear hcz12_4); (try clear hfz10_0); (try clear hfz10_1); (try clear hfz10_2); (try clear hfz10_3); (try clear hfz10_4); (try clear hfz12_0); (try clear hfz12_1); (try clear hfz12_2); (try clear hfz12_3); (try clear hfz12_4); (try clear hx188_0); (try clear hx188_1); (try clear hx188_2); (try clear hx188_3); (try clear hx188_4); (try clear p188); (try clear q188); obtain ⟨x32_2, rfl, HA, HK2, BK189, HB⟩ := hrel; obtain _ | k2 := gk
    · exact absurd HA.1 (by simp [aN.l1])
    have H := HA.1; clear HA; simp only [aN.l1] at H; replace H := (sd_ H).symm; obtain ⟨c13b0, H⟩ | ⟨c13b0, H⟩ := H
    ·
     replace H := bn_ H; obtain ⟨t195, A36, H⟩ := H; (try dsimp only at H); replace H := (sb_ H).symm; obtain ⟨rfl, H⟩ | ⟨rfl, H⟩ := H
     ·
      obtain rfl := Option.some.inj H; obtain ⟨hcz40_0, hcz40_1, hcz40_2, hcz40_3, hcz40_4, hfz40_0, hfz40_1, hfz40_2, hfz40_3, hfz40_4⟩ := cq5_ BK189.1
      go_wp2_with (first | ((with_reducible refine aj (f := 39) rfl ?_); refine gk_ (some 47) Tryz.func39 (ih k2 (by have := HK1.1; have := HK2.1; omega) _ _ ((au l0 x9_1).f3) false _ ?side1 ?side2 A36.1) ?_; (case side1 => repeat (first | exact (Kd.di HR188_3.1 HB.1) | (with_reducible refine Kd.dH ?_ _) | (with_reducible refine Kd.dG ?_ _) | (with_reducible refine Kd.fe ?_))); (case side2 => exact HC188_3.1); rintro e w41 ⟨rfl, hb⟩; refine ⟨_, rfl, ?_⟩; refine fK (bb_ BK189.1 hb) (ah (bl1_ HB.1 GE189.1) hb) ?_; clear hb BK189 HB; intro BK189 HB))
      go_ret
      exact ⟨er_, bl1_ HB.1 GE189.1⟩
     have H' := af.mk H; clear H; obtain ⟨hcz38_0, hcz38_1, hcz38_2, hcz38_3, hcz38_4, hfz38_0, hfz38_1, hfz38_2, hfz38_3, hfz38_4⟩ := cq5_ BK189.1
     go_wp2_with (first | ((with_reducible refine aj (f := 39) rfl ?_); refine gk_ (some 47) Tryz.func39 (ih k2 (by have := HK1.1; have := HK2.1; omega) _ _ ((au l0 x9_1).f3) true _ ?side1 ?side2 A36.1) ?_; (case side1 => repeat (first | exact (Kd.di HR188_3.1 HB.1) | (with_reducible refine Kd.dH ?_ _) | (with_reducible refine Kd.dG ?_ _) | (with_reducible refine Kd.fe ?_))); (case side2 => exact HC188_3.1); rintro e w39 ⟨rfl, hb⟩; refine ⟨_, rfl, ?_⟩; refine fK (bb_ BK189.1 hb) (ah (bl1_ HB.1 GE189.1) hb) ?_; clear hb BK189 HB; intro BK189 HB))
     go_roundg k2
     case measure => have := HK1.1; have := HK2.1; omega
     case rel => exact ⟨(wrap64 (x9_1 + 1)), sr_, H', ⟨by have := HK1.1; have := HK2.1; omega⟩, ⟨bl1_ HB.1 GE189.1⟩⟩
    replace H := gd_ H; obtain ⟨c14b0, H⟩ := H; replace H := gd_ H; obtain ⟨c15b0, H⟩ := H; replace H := bn_ H; obtain ⟨t193, A16, H⟩ := H; (try dsimp only at H); replace H := (sb_ H).symm; obtain ⟨rfl, H⟩ | ⟨rfl, H⟩ := H
    ·
     obtain rfl := Option.some.inj H; have p191 : 0 ≤ (x32_2 : Int) := dt_; have q191 : x32_2 < (((au l0 x9_1).f1).length : Int) := dt_; obtain ⟨ad191, e191, hx191_0, hx191_1, hx191_2, hx191_3⟩ := eZ HR188_1.1 x32_2 p191 q191; cases e191; replace hx191_0 := ae HB.1 hx191_0; replace hx191_1 := ae HB.1 hx191_1; replace hx191_2 := ae HB.1 hx191_2; replace hx191_3 := ae HB.1 hx191_3; replace p191 := eq_true p191; replace q191 := eq_true q191
     go_wp2_with (first | ((with_reducible refine aA (N := 6) rfl ?_); (try (refine bE (by rfl) ?_; dsimp only)); refine bx_ (N := 6) (cs := #[.int .i64 0, .string (⟨#[]⟩ : ByteArray), .int .i64 0, .int .i64 0]) (t := 50) ?_; intro gb192 hg w32 hbox hb; refine gH (bb_ BK189.1 hb) (ah (bl1_ HB.1 GE189.1) hb) (hbox) (bz_ (w := w) hg (bl1_ HB.1 GE189.1)) (bz_ (w := w) hg (bl1_ HB.1 GE189.1)) (nl_ hg BK189.1) (ng_ hg BK189.1) ?_; clear BK189 HB; intro BK189 HB BK192 GW192 GE192 NB189_192 NB192_189; clear hb hbox hg; have hnb33 := NB192_189.1; have hnc33 := NB189_192.1; obtain ⟨hcz34_0, hcz34_1, hcz34_2, hcz34_3, hfz34_0, hfz34_1, hfz34_2, hfz34_3⟩ := cq4_ BK192.1) | ((with_reducible refine aj (f := 59) rfl ?_); refine gk_ (some 37) Tryz.func59 (dM.calls ((ag ((au l0 x9_1).f1) x32_2).f0) ((ag ((au l0 x9_1).f1) x32_2).f1) ((ag ((au l0 x9_1).f1) x32_2).f2) ((ag ((au l0 x9_1).f1) x32_2).f3) false _ A16.1) ?_; rintro e w35 ⟨rfl, hb⟩; refine ⟨_, rfl, ?_⟩; refine fu (aZ (g := gb189) (o := .cells #[.string ((au l0 x9_1).f0), .slice (some ad191) ((au l0 x9_1).f1).length c188_1, .bool true, .slice A188_3 ((au l0 x9_1).f3).length c188_3, .int .i64 ((au l0 x9_1).f4)] 25 (0, 0)) (eX (bk_ BK189.1) NB189_192.1) hb) (aZ (g := gb192) (o := .cells #[.int .i64 ((ag ((au l0 x9_1).f1) x32_2).f0), .string ((ag ((au l0 x9_1).f1) x32_2).f1), .int .i64 ((ag ((au l0 x9_1).f1) x32_2).f2), .int .i64 ((ag ((au l0 x9_1).f1) x32_2).f3)] 50 (0, 0)) (dK (bk_ BK192.1)) hb) (ah (bl2_ HB.1 GE189.1 GE192.1) hb) ?_; clear hb BK189 BK192 HB; intro BK189 BK192 HB))
     go_ret
     exact ⟨er_, bl2_ HB.1 GE189.1 GE192.1⟩
    replace H := bn_ H; obtain ⟨t194, A18, H⟩ := H; (try dsimp only at H); replace H := (sb_ H).symm; obtain ⟨rfl, H⟩ | ⟨rfl, H⟩ := H
    ·
     obtain rfl := Option.some.inj H; have p191 : 0 ≤ (x32_2 : Int) := dt_; have q191 : x32_2 < (((au l0 x9_1).f1).length : Int) := dt_; obtain ⟨ad191, e191, hx191_0, hx191_1, hx191_2, hx191_3⟩ := eZ HR188_1.1 x32_2 p191 q191; cases e191; replace hx191_0 := ae HB.1 hx191_0; replace hx191_1 := ae HB.1 hx191_1; replace hx191_2 := ae HB.1 hx191_2; replace hx191_3 := ae HB.1 hx191_3; replace p191 := eq_true p191; replace q191 := eq_true q191
     go_wp2_with (first | ((with_reducible refine aA (N := 6) rfl ?_); (try (refine bE (by rfl) ?_; dsimp only)); refine bx_ (N := 6) (cs := #[.int .i64 0, .string (⟨#[]⟩ : ByteArray), .int .i64 0, .int .i64 0]) (t := 50) ?_; intro gb192 hg w26 hbox hb; refine gH (bb_ BK189.1 hb) (ah (bl1_ HB.1 GE189.1) hb) (hbox) (bz_ (w := w) hg (bl1_ HB.1 GE189.1)) (bz_ (w := w) hg (bl1_ HB.1 GE189.1)) (nl_ hg BK189.1) (ng_ hg BK189.1) ?_; clear BK189 HB; intro BK189 HB BK192 GW192 GE192 NB189_192 NB192_189; clear hb hbox hg; have hnb27 := NB192_189.1; have hnc27 := NB189_192.1; obtain ⟨hcz28_0, hcz28_1, hcz28_2, hcz28_3, hfz28_0, hfz28_1, hfz28_2, hfz28_3⟩ := cq4_ BK192.1) | ((with_reducible refine aj (f := 59) rfl ?_); refine gk_ (some 37) Tryz.func59 (dM.calls ((ag ((au l0 x9_1).f1) x32_2).f0) ((ag ((au l0 x9_1).f1) x32_2).f1) ((ag ((au l0 x9_1).f1) x32_2).f2) ((ag ((au l0 x9_1).f1) x32_2).f3) true _ A16.1) ?_; rintro e w29 ⟨rfl, hb⟩; refine ⟨_, rfl, ?_⟩; refine fu (aZ (g := gb189) (o := .cells #[.string ((au l0 x9_1).f0), .slice (some ad191) ((au l0 x9_1).f1).length c188_1, .bool true, .slice A188_3 ((au l0 x9_1).f3).length c188_3, .int .i64 ((au l0 x9_1).f4)] 25 (0, 0)) (eX (bk_ BK189.1) NB189_192.1) hb) (aZ (g := gb192) (o := .cells #[.int .i64 ((ag ((au l0 x9_1).f1) x32_2).f0), .string ((ag ((au l0 x9_1).f1) x32_2).f1), .int .i64 ((ag ((au l0 x9_1).f1) x32_2).f2), .int .i64 ((ag ((au l0 x9_1).f1) x32_2).f3)] 50 (0, 0)) (dK (bk_ BK192.1)) hb) (ah (bl2_ HB.1 GE189.1 GE192.1) hb) ?_; clear hb BK189 BK192 HB; intro BK189 BK192 HB; obtain ⟨hcz30_0, hcz30_1, hcz30_2, hcz30_3, hfz30_0, hfz30_1, hfz30_2, hfz30_3⟩ := cq4_ BK192.1) | (go_at_call 58; (with_reducible refine (aY.calls k2 ((ag ((au l0 x9_1).f1) x32_2).f0) ((ag ((au l0 x9_1).f1) x32_2).f1) ((ag ((au l0 x9_1).f1) x32_2).f2) ((ag ((au l0 x9_1).f1) x32_2).f3) false _ A18.1).mono ?_); rintro e w31 ⟨rfl, hb⟩; refine fu (bb_ BK189.1 hb) (bb_ BK192.1 hb) (ah (bl2_ HB.1 GE189.1 GE192.1) hb) ?_; clear BK189 BK192 HB; intro BK189 BK192 HB; (try clear hb); (try clear hb2); (try clear hk); (try clear hi)))
     go_ret
     exact ⟨er_, bl2_ HB.1 GE189.1 GE192.1⟩
    have H' := af.mk H; clear H; have p191 : 0 ≤ (x32_2 : Int) := dt_; have q191 : x32_2 < (((au l0 x9_1).f1).length : Int) := dt_; obtain ⟨ad191, e191, hx191_0, hx191_1, hx191_2, hx191_3⟩ := eZ HR188_1.1 x32_2 p191 q191; cases e191; replace hx191_0 := ae HB.1 hx191_0; replace hx191_1 := ae HB.1 hx191_1; replace hx191_2 := ae HB.1 hx191_2; replace hx191_3 := ae HB.1 hx191_3; replace p191 := eq_true p191; replace q191 := eq_true q191
    go_wp2_with (first | ((with_reducible refine aA (N := 6) rfl ?_); (try (refine bE (by rfl) ?_; dsimp only)); refine bx_ (N := 6) (cs := #[.int .i64 0, .string (⟨#[]⟩ : ByteArray), .int .i64 0, .int .i64 0]) (t := 50) ?_; intro gb192 hg w20 hbox hb; refine gH (bb_ BK189.1 hb) (ah (bl1_ HB.1 GE189.1) hb) (hbox) (bz_ (w := w) hg (bl1_ HB.1 GE189.1)) (bz_ (w := w) hg (bl1_ HB.1 GE189.1)) (nl_ hg BK189.1) (ng_ hg BK189.1) ?_; clear BK189 HB; intro BK189 HB BK192 GW192 GE192 NB189_192 NB192_189; clear hb hbox hg; have hnb21 := NB192_189.1; have hnc21 := NB189_192.1; obtain ⟨hcz22_0, hcz22_1, hcz22_2, hcz22_3, hfz22_0, hfz22_1, hfz22_2, hfz22_3⟩ := cq4_ BK192.1) | ((with_reducible refine aj (f := 59) rfl ?_); refine gk_ (some 37) Tryz.func59 (dM.calls ((ag ((au l0 x9_1).f1) x32_2).f0) ((ag ((au l0 x9_1).f1) x32_2).f1) ((ag ((au l0 x9_1).f1) x32_2).f2) ((ag ((au l0 x9_1).f1) x32_2).f3) true _ A16.1) ?_; rintro e w23 ⟨rfl, hb⟩; refine ⟨_, rfl, ?_⟩; refine fu (aZ (g := gb189) (o := .cells #[.string ((au l0 x9_1).f0), .slice (some ad191) ((au l0 x9_1).f1).length c188_1, .bool true, .slice A188_3 ((au l0 x9_1).f3).length c188_3, .int .i64 ((au l0 x9_1).f4)] 25 (0, 0)) (eX (bk_ BK189.1) NB189_192.1) hb) (aZ (g := gb192) (o := .cells #[.int .i64 ((ag ((au l0 x9_1).f1) x32_2).f0), .string ((ag ((au l0 x9_1).f1) x32_2).f1), .int .i64 ((ag ((au l0 x9_1).f1) x32_2).f2), .int .i64 ((ag ((au l0 x9_1).f1) x32_2).f3)] 50 (0, 0)) (dK (bk_ BK192.1)) hb) (ah (bl2_ HB.1 GE189.1 GE192.1) hb) ?_; clear hb BK189 BK192 HB; intro BK189 BK192 HB; obtain ⟨hcz24_0, hcz24_1, hcz24_2, hcz24_3, hfz24_0, hfz24_1, hfz24_2, hfz24_3⟩ := cq4_ BK192.1) | (go_at_call 58; (with_reducible refine (aY.calls k2 ((ag ((au l0 x9_1).f1) x32_2).f0) ((ag ((au l0 x9_1).f1) x32_2).f1) ((ag ((au l0 x9_1).f1) x32_2).f2) ((ag ((au l0 x9_1).f1) x32_2).f3) true _ A18.1).mono ?_); rintro e w25 ⟨rfl, hb⟩; refine fu (bb_ BK189.1 hb) (bb_ BK192.1 hb) (ah (bl2_ HB.1 GE189.1 GE192.1) hb) ?_; clear BK189 BK192 HB; intro BK189 BK192 HB; (try clear hb); (try clear hb2); (try clear hk); (try clear hi)))
    go_roundg k2
    case measure => have := HK1.1; have := HK2.1; omega
    case rel => exact ⟨(wrap64 (x32_2 + 1)), sr_, H', ⟨by have := HK1.1; have := HK2.1; omega⟩, ⟨bk_ BK189.1⟩, ⟨bl2_ HB.1 GE189.1 GE192.1⟩⟩
  replace c8 := Bool.eq_false_iff.mpr c8; subst c8; have H1 : (if (((au l0 x9_1).f3).length : Int) > 0 then (some false) else (aN.l1 k1 l0 (l0.length : Int) x9_1 ((au l0 x9_1).f1) (((au l0 x9_1).f1).length : Int) 0 ((au l0 x9_1).f0) ((au l0 x9_1).f1) false ((au l0 x9_1).f3) ((au l0 x9_1).f4))) = some r := by rw [if_neg (show ¬ (false = true) by decide)] at H; exact H
  clear H; have H := H1; clear H1; replace H := sp_ H; obtain ⟨c42, H⟩ | ⟨c42, H⟩ := H
  ·
   have c42b0 := decide_eq_true c42; have c42b1 : decide (0 < ((au l0 x9_1).f3).length) = true := decide_eq_true (by omega); clear c42; obtain rfl := Option.some.inj H; have p188 : 0 ≤ (x9_1 : Int) := dt_; have q188 : x9_1 < (l0.length : Int) := dt_; obtain ⟨ad188, A188_1, c188_1, A188_3, c188_3, e188, hx188_0, hx188_1, hx188_2, hx188_3, hx188_4, hl188_1, hi188_1, hl188_3, hi188_3⟩ := iQ HR0.1 x9_1 p188 q188; (try rw [← Nbq7.1] at hx188_2); cases e188; replace hx188_0 := ae HB.1 hx188_0; replace hx188_1 := ae HB.1 hx188_1; replace hx188_2 := ae HB.1 hx188_2; replace hx188_3 := ae HB.1 hx188_3; replace hx188_4 := ae HB.1 hx188_4; have HR188_1 := af.mk hi188_1; have HC188_1 := af.mk hl188_1; clear hi188_1 hl188_1; have HR188_3 := af.mk hi188_3; have HC188_3 := af.mk hl188_3; clear hi188_3 hl188_3; replace p188 := eq_true p188; replace q188 := eq_true q188
   go_wp2_with (first | ((with_reducible refine aA (N := 4) rfl ?_); (try (refine bE (by rfl) ?_; dsimp only)); refine bx_ (N := 4) (cs := #[.string (⟨#[]⟩ : ByteArray), .slice none 0 0, .bool false, .slice none 0 0, .int .i64 0]) (t := 25) ?_; intro gb189 hg w43 hbox hb; refine df (ah (bl_ HB.1) hb) (hbox) (bz_ (w := w) hg (bl_ HB.1)) (bz_ (w := w) hg (bl_ HB.1)) ?_; clear HB; intro HB BK189 GW189 GE189; clear hb hbox hg; obtain ⟨hcz44_0, hcz44_1, hcz44_2, hcz44_3, hcz44_4, hfz44_0, hfz44_1, hfz44_2, hfz44_3, hfz44_4⟩ := cq5_ BK189.1) | ((with_reducible refine aj (f := 58) rfl ?_); refine gk_ (some 16) Tryz.func58 (aY.calls k1 1 ((au l0 x9_1).f0) 0 0 true _ A5.1) ?_; rintro e w45 ⟨rfl, hb⟩; refine ⟨_, rfl, ?_⟩; refine fK (aZ (g := gb189) (o := .cells #[.string ((au l0 x9_1).f0), .slice A188_1 ((au l0 x9_1).f1).length c188_1, .bool false, .slice A188_3 ((au l0 x9_1).f3).length c188_3, .int .i64 ((au l0 x9_1).f4)] 25 (0, 0)) (ik (bk_ BK189.1)) hb) (ah (bl1_ HB.1 GE189.1) hb) ?_; clear hb BK189 HB; intro BK189 HB; obtain ⟨hcz46_0, hcz46_1, hcz46_2, hcz46_3, hcz46_4, hfz46_0, hfz46_1, hfz46_2, hfz46_3, hfz46_4⟩ := cq5_ BK189.1))
   go_ret
   exact ⟨er_, bl1_ HB.1 GE189.1⟩
  have c42b0 := decide_eq_false c42; have c42b1 : decide (0 < ((au l0 x9_1).f3).length) = false := decide_eq_false (by omega); clear c42; have H' := af.mk H; clear H; have p188 : 0 ≤ (x9_1 : Int) := dt_; have q188 : x9_1 < (l0.length : Int) := dt_; obtain ⟨ad188, A188_1, c188_1, A188_3, c188_3, e188, hx188_0, hx188_1, hx188_2, hx188_3, hx188_4, hl188_1, hi188_1, hl188_3, hi188_3⟩ := iQ HR0.1 x9_1 p188 q188; (try rw [← Nbq7.1] at hx188_2); cases e188; replace hx188_0 := ae HB.1 hx188_0; replace hx188_1 := ae HB.1 hx188_1; replace hx188_2 := ae HB.1 hx188_2; replace hx188_3 := ae HB.1 hx188_3; replace hx188_4 := ae HB.1 hx188_4; have HR188_1 := af.mk hi188_1; have HC188_1 := af.mk hl188_1; clear hi188_1 hl188_1; have HR188_3 := af.mk hi188_3; have HC188_3 := af.mk hl188_3; clear hi188_3 hl188_3; replace p188 := eq_true p188; replace q188 := eq_true q188
  go_wp2_with (first | ((with_reducible refine aA (N := 4) rfl ?_); (try (refine bE (by rfl) ?_; dsimp only)); refine bx_ (N := 4) (cs := #[.string (⟨#[]⟩ : ByteArray), .slice none 0 0, .bool false, .slice none 0 0, .int .i64 0]) (t := 25) ?_; intro gb189 hg w47 hbox hb; refine df (ah (bl_ HB.1) hb) (hbox) (bz_ (w := w) hg (bl_ HB.1)) (bz_ (w := w) hg (bl_ HB.1)) ?_; clear HB; intro HB BK189 GW189 GE189; clear hb hbox hg; obtain ⟨hcz48_0, hcz48_1, hcz48_2, hcz48_3, hcz48_4, hfz48_0, hfz48_1, hfz48_2, hfz48_3, hfz48_4⟩ := cq5_ BK189.1) | ((with_reducible refine aj (f := 58) rfl ?_); refine gk_ (some 16) Tryz.func58 (aY.calls k1 1 ((au l0 x9_1).f0) 0 0 true _ A5.1) ?_; rintro e w49 ⟨rfl, hb⟩; refine ⟨_, rfl, ?_⟩; refine fK (aZ (g := gb189) (o := .cells #[.string ((au l0 x9_1).f0), .slice A188_1 ((au l0 x9_1).f1).length c188_1, .bool false, .slice A188_3 ((au l0 x9_1).f3).length c188_3, .int .i64 ((au l0 x9_1).f4)] 25 (0, 0)) (ik (bk_ BK189.1)) hb) (ah (bl1_ HB.1 GE189.1) hb) ?_; clear hb BK189 HB; intro BK189 HB; obtain ⟨hcz50_0, hcz50_1, hcz50_2, hcz50_3, hcz50_4, hfz50_0, hfz50_1, hfz50_2, hfz50_3, hfz50_4⟩ := cq5_ BK189.1))
  go_loopg [32] k1 (fun kq v32 w' => ∃ (x32_2 : Int), v32 = .int .i64 x32_2 ∧ af (aN.l1 kq l0 (l0.length : Int) x9_1 ((au l0 x9_1).f1) (((au l0 x9_1).f1).length : Int) x32_2 ((au l0 x9_1).f0) ((au l0 x9_1).f1) false ((au l0 x9_1).f3) ((au l0 x9_1).f4) = some r) ∧ af (kq ≤ k1) ∧ af (w'.heap[gb189]? = some (.cells #[.string ((au l0 x9_1).f0), (.slice A188_1 ((au l0 x9_1).f1).length c188_1), .bool false, (.slice A188_3 ((au l0 x9_1).f3).length c188_3), .int .i64 ((au l0 x9_1).f4)] 25 (0, 0))) ∧ af (Below w.heap.size w w'))
  case atStart => exact ⟨(0), sr_, H', ⟨Nat.le_refl _⟩, ⟨bk_ BK189.1⟩, ⟨bl1_ HB.1 GE189.1⟩⟩
  case round =>
   clear H'; (try clear c2); (try clear c2b0); (try clear c3); (try clear c3b0); (try clear c4); (try clear c4b0); (try clear c6); (try clear c8); (try clear c42); (try clear c42b0); (try clear c42b1); (try clear hcz48_0); (try clear hcz48_1); (try clear hcz48_2); (try clear hcz48_3); (try clear hcz48_4); (try clear hcz50_0); (try clear hcz50_1); (try clear hcz50_2); (try clear hcz50_3); (try clear hcz50_4); (try clear hfz48_0); (try clear hfz48_1); (try clear hfz48_2); (try clear hfz48_3); (try clear hfz48_4); (try clear hfz50_0); (try clear hfz50_1); (try clear hfz50_2); (try clear hfz50_3); (try clear hfz50_4); (try clear hx188_0); (try clear hx188_1); (try clear hx188_2); (try clear hx188_3); (try clear hx188_4); (try clear p188); (try clear q188); obtain ⟨x32_2, rfl, HA, HK2, BK189, HB⟩ := hrel; obtain _ | k2 := gk
   · exact absurd HA.1 (by simp [aN.l1])
   have H := HA.1; clear HA; simp only [aN.l1] at H; replace H := (sd_ H).symm; obtain ⟨c51b0, H⟩ | ⟨c51b0, H⟩ := H
   ·
    replace H := bn_ H; obtain ⟨t195, A74, H⟩ := H; (try dsimp only at H); replace H := (sb_ H).symm; obtain ⟨rfl, H⟩ | ⟨rfl, H⟩ := H
    ·
     obtain rfl := Option.some.inj H; obtain ⟨hcz78_0, hcz78_1, hcz78_2, hcz78_3, hcz78_4, hfz78_0, hfz78_1, hfz78_2, hfz78_3, hfz78_4⟩ := cq5_ BK189.1
     go_wp2_with (first | ((with_reducible refine aj (f := 39) rfl ?_); refine gk_ (some 47) Tryz.func39 (ih k2 (by have := HK1.1; have := HK2.1; omega) _ _ ((au l0 x9_1).f3) false _ ?side1 ?side2 A74.1) ?_; (case side1 => repeat (first | exact (Kd.di HR188_3.1 HB.1) | (with_reducible refine Kd.dH ?_ _) | (with_reducible refine Kd.dG ?_ _) | (with_reducible refine Kd.fe ?_))); (case side2 => exact HC188_3.1); rintro e w79 ⟨rfl, hb⟩; refine ⟨_, rfl, ?_⟩; refine fK (bb_ BK189.1 hb) (ah (bl1_ HB.1 GE189.1) hb) ?_; clear hb BK189 HB; intro BK189 HB))
     go_ret
     exact ⟨er_, bl1_ HB.1 GE189.1⟩
    have H' := af.mk H; clear H; obtain ⟨hcz76_0, hcz76_1, hcz76_2, hcz76_3, hcz76_4, hfz76_0, hfz76_1, hfz76_2, hfz76_3, hfz76_4⟩ := cq5_ BK189.1
    go_wp2_with (first | ((with_reducible refine aj (f := 39) rfl ?_); refine gk_ (some 47) Tryz.func39 (ih k2 (by have := HK1.1; have := HK2.1; omega) _ _ ((au l0 x9_1).f3) true _ ?side1 ?side2 A74.1) ?_; (case side1 => repeat (first | exact (Kd.di HR188_3.1 HB.1) | (with_reducible refine Kd.dH ?_ _) | (with_reducible refine Kd.dG ?_ _) | (with_reducible refine Kd.fe ?_))); (case side2 => exact HC188_3.1); rintro e w77 ⟨rfl, hb⟩; refine ⟨_, rfl, ?_⟩; refine fK (bb_ BK189.1 hb) (ah (bl1_ HB.1 GE189.1) hb) ?_; clear hb BK189 HB; intro BK189 HB))
    go_roundg k2
    case measure => have := HK1.1; have := HK2.1; omega
    case rel => exact ⟨(wrap64 (x9_1 + 1)), sr_, H', ⟨by have := HK1.1; have := HK2.1; omega⟩, ⟨bl1_ HB.1 GE189.1⟩⟩
   replace H := gd_ H; obtain ⟨c52b0, H⟩ := H; replace H := gd_ H; obtain ⟨c53b0, H⟩ := H; replace H := bn_ H; obtain ⟨t193, A54, H⟩ := H; (try dsimp only at H); replace H := (sb_ H).symm; obtain ⟨rfl, H⟩ | ⟨rfl, H⟩ := H
   ·
    obtain rfl := Option.some.inj H; have p191 : 0 ≤ (x32_2 : Int) := dt_; have q191 : x32_2 < (((au l0 x9_1).f1).length : Int) := dt_; obtain ⟨ad191, e191, hx191_0, hx191_1, hx191_2, hx191_3⟩ := eZ HR188_1.1 x32_2 p191 q191; cases e191; replace hx191_0 := ae HB.1 hx191_0; replace hx191_1 := ae HB.1 hx191_1; replace hx191_2 := ae HB.1 hx191_2; replace hx191_3 := ae HB.1 hx191_3; replace p191 := eq_true p191; replace q191 := eq_true q191
    go_wp2_with (first | ((with_reducible refine aA (N := 6) rfl ?_); (try (refine bE (by rfl) ?_; dsimp only)); refine bx_ (N := 6) (cs := #[.int .i64 0, .string (⟨#[]⟩ : ByteArray), .int .i64 0, .int .i64 0]) (t := 50) ?_; intro gb192 hg w70 hbox hb; refine gH (bb_ BK189.1 hb) (ah (bl1_ HB.1 GE189.1) hb) (hbox) (bz_ (w := w) hg (bl1_ HB.1 GE189.1)) (bz_ (w := w) hg (bl1_ HB.1 GE189.1)) (nl_ hg BK189.1) (ng_ hg BK189.1) ?_; clear BK189 HB; intro BK189 HB BK192 GW192 GE192 NB189_192 NB192_189; clear hb hbox hg; have hnb71 := NB192_189.1; have hnc71 := NB189_192.1; obtain ⟨hcz72_0, hcz72_1, hcz72_2, hcz72_3, hfz72_0, hfz72_1, hfz72_2, hfz72_3⟩ := cq4_ BK192.1) | ((with_reducible refine aj (f := 59) rfl ?_); refine gk_ (some 37) Tryz.func59 (dM.calls ((ag ((au l0 x9_1).f1) x32_2).f0) ((ag ((au l0 x9_1).f1) x32_2).f1) ((ag ((au l0 x9_1).f1) x32_2).f2) ((ag ((au l0 x9_1).f1) x32_2).f3) false _ A54.1) ?_; rintro e w73 ⟨rfl, hb⟩; refine ⟨_, rfl, ?_⟩; refine fu (aZ (g := gb189) (o := .cells #[.string ((au l0 x9_1).f0), .slice (some ad191) ((au l0 x9_1).f1).length c188_1, .bool false, .slice A188_3 ((au l0 x9_1).f3).length c188_3, .int .i64 ((au l0 x9_1).f4)] 25 (0, 0)) (eX (bk_ BK189.1) NB189_192.1) hb) (aZ (g := gb192) (o := .cells #[.int .i64 ((ag ((au l0 x9_1).f1) x32_2).f0), .string ((ag ((au l0 x9_1).f1) x32_2).f1), .int .i64 ((ag ((au l0 x9_1).f1) x32_2).f2), .int .i64 ((ag ((au l0 x9_1).f1) x32_2).f3)] 50 (0, 0)) (dK (bk_ BK192.1)) hb) (ah (bl2_ HB.1 GE189.1 GE192.1) hb) ?_; clear hb BK189 BK192 HB; intro BK189 BK192 HB))
    go_ret
    exact ⟨er_, bl2_ HB.1 GE189.1 GE192.1⟩
   replace H := bn_ H; obtain ⟨t194, A56, H⟩ := H; (try dsimp only at H); replace H := (sb_ H).symm; obtain ⟨rfl, H⟩ | ⟨rfl, H⟩ := H
   ·
    obtain rfl := Option.some.inj H; have p191 : 0 ≤ (x32_2 : Int) := dt_; have q191 : x32_2 < (((au l0 x9_1).f1).length : Int) := dt_; obtain ⟨ad191, e191, hx191_0, hx191_1, hx191_2, hx191_3⟩ := eZ HR188_1.1 x32_2 p191 q191; cases e191; replace hx191_0 := ae HB.1 hx191_0; replace hx191_1 := ae HB.1 hx191_1; replace hx191_2 := ae HB.1 hx191_2; replace hx191_3 := ae HB.1 hx191_3; replace p191 := eq_true p191; replace q191 := eq_true q191
    go_wp2_with (first | ((with_reducible refine aA (N := 6) rfl ?_); (try (refine bE (by rfl) ?_; dsimp only)); refine bx_ (N := 6) (cs := #[.int .i64 0, .string (⟨#[]⟩ : ByteArray), .int .i64 0, .int .i64 0]) (t := 50) ?_; intro gb192 hg w64 hbox hb; refine gH (bb_ BK189.1 hb) (ah (bl1_ HB.1 GE189.1) hb) (hbox) (bz_ (w := w) hg (bl1_ HB.1 GE189.1)) (bz_ (w := w) hg (bl1_ HB.1 GE189.1)) (nl_ hg BK189.1) (ng_ hg BK189.1) ?_; clear BK189 HB; intro BK189 HB BK192 GW192 GE192 NB189_192 NB192_189; clear hb hbox hg; have hnb65 := NB192_189.1; have hnc65 := NB189_192.1; obtain ⟨hcz66_0, hcz66_1, hcz66_2, hcz66_3, hfz66_0, hfz66_1, hfz66_2, hfz66_3⟩ := cq4_ BK192.1) | ((with_reducible refine aj (f := 59) rfl ?_); refine gk_ (some 37) Tryz.func59 (dM.calls ((ag ((au l0 x9_1).f1) x32_2).f0) ((ag ((au l0 x9_1).f1) x32_2).f1) ((ag ((au l0 x9_1).f1) x32_2).f2) ((ag ((au l0 x9_1).f1) x32_2).f3) true _ A54.1) ?_; rintro e w67 ⟨rfl, hb⟩; refine ⟨_, rfl, ?_⟩; refine fu (aZ (g := gb189) (o := .cells #[.string ((au l0 x9_1).f0), .slice (some ad191) ((au l0 x9_1).f1).length c188_1, .bool false, .slice A188_3 ((au l0 x9_1).f3).length c188_3, .int .i64 ((au l0 x9_1).f4)] 25 (0, 0)) (eX (bk_ BK189.1) NB189_192.1) hb) (aZ (g := gb192) (o := .cells #[.int .i64 ((ag ((au l0 x9_1).f1) x32_2).f0), .string ((ag ((au l0 x9_1).f1) x32_2).f1), .int .i64 ((ag ((au l0 x9_1).f1) x32_2).f2), .int .i64 ((ag ((au l0 x9_1).f1) x32_2).f3)] 50 (0, 0)) (dK (bk_ BK192.1)) hb) (ah (bl2_ HB.1 GE189.1 GE192.1) hb) ?_; clear hb BK189 BK192 HB; intro BK189 BK192 HB; obtain ⟨hcz68_0, hcz68_1, hcz68_2, hcz68_3, hfz68_0, hfz68_1, hfz68_2, hfz68_3⟩ := cq4_ BK192.1) | (go_at_call 58; (with_reducible refine (aY.calls k2 ((ag ((au l0 x9_1).f1) x32_2).f0) ((ag ((au l0 x9_1).f1) x32_2).f1) ((ag ((au l0 x9_1).f1) x32_2).f2) ((ag ((au l0 x9_1).f1) x32_2).f3) false _ A56.1).mono ?_); rintro e w69 ⟨rfl, hb⟩; refine fu (bb_ BK189.1 hb) (bb_ BK192.1 hb) (ah (bl2_ HB.1 GE189.1 GE192.1) hb) ?_; clear BK189 BK192 HB; intro BK189 BK192 HB; (try clear hb); (try clear hb2); (try clear hk); (try clear hi)))
    go_ret
    exact ⟨er_, bl2_ HB.1 GE189.1 GE192.1⟩
   have H' := af.mk H; clear H; have p191 : 0 ≤ (x32_2 : Int) := dt_; have q191 : x32_2 < (((au l0 x9_1).f1).length : Int) := dt_; obtain ⟨ad191, e191, hx191_0, hx191_1, hx191_2, hx191_3⟩ := eZ HR188_1.1 x32_2 p191 q191; cases e191; replace hx191_0 := ae HB.1 hx191_0; replace hx191_1 := ae HB.1 hx191_1; replace hx191_2 := ae HB.1 hx191_2; replace hx191_3 := ae HB.1 hx191_3; replace p191 := eq_true p191; replace q191 := eq_true q191
   go_wp2_with (first | ((with_reducible refine aA (N := 6) rfl ?_); (try (refine bE (by rfl) ?_; dsimp only)); refine bx_ (N := 6) (cs := #[.int .i64 0, .string (⟨#[]⟩ : ByteArray), .int .i64 0, .int .i64 0]) (t := 50) ?_; intro gb192 hg w58 hbox hb; refine gH (bb_ BK189.1 hb) (ah (bl1_ HB.1 GE189.1) hb) (hbox) (bz_ (w := w) hg (bl1_ HB.1 GE189.1)) (bz_ (w := w) hg (bl1_ HB.1 GE189.1)) (nl_ hg BK189.1) (ng_ hg BK189.1) ?_; clear BK189 HB; intro BK189 HB BK192 GW192 GE192 NB189_192 NB192_189; clear hb hbox hg; have hnb59 := NB192_189.1; have hnc59 := NB189_192.1; obtain ⟨hcz60_0, hcz60_1, hcz60_2, hcz60_3, hfz60_0, hfz60_1, hfz60_2, hfz60_3⟩ := cq4_ BK192.1) | ((with_reducible refine aj (f := 59) rfl ?_); refine gk_ (some 37) Tryz.func59 (dM.calls ((ag ((au l0 x9_1).f1) x32_2).f0) ((ag ((au l0 x9_1).f1) x32_2).f1) ((ag ((au l0 x9_1).f1) x32_2).f2) ((ag ((au l0 x9_1).f1) x32_2).f3) true _ A54.1) ?_; rintro e w61 ⟨rfl, hb⟩; refine ⟨_, rfl, ?_⟩; refine fu (aZ (g := gb189) (o := .cells #[.string ((au l0 x9_1).f0), .slice (some ad191) ((au l0 x9_1).f1).length c188_1, .bool false, .slice A188_3 ((au l0 x9_1).f3).length c188_3, .int .i64 ((au l0 x9_1).f4)] 25 (0, 0)) (eX (bk_ BK189.1) NB189_192.1) hb) (aZ (g := gb192) (o := .cells #[.int .i64 ((ag ((au l0 x9_1).f1) x32_2).f0), .string ((ag ((au l0 x9_1).f1) x32_2).f1), .int .i64 ((ag ((au l0 x9_1).f1) x32_2).f2), .int .i64 ((ag ((au l0 x9_1).f1) x32_2).f3)] 50 (0, 0)) (dK (bk_ BK192.1)) hb) (ah (bl2_ HB.1 GE189.1 GE192.1) hb) ?_; clear hb BK189 BK192 HB; intro BK189 BK192 HB; obtain ⟨hcz62_0, hcz62_1, hcz62_2, hcz62_3, hfz62_0, hfz62_1, hfz62_2, hfz62_3⟩ := cq4_ BK192.1) | (go_at_call 58; (with_reducible refine (aY.calls k2 ((ag ((au l0 x9_1).f1) x32_2).f0) ((ag ((au l0 x9_1).f1) x32_2).f1) ((ag ((au l0 x9_1).f1) x32_2).f2) ((ag ((au l0 x9_1).f1) x32_2).f3) true _ A56.1).mono ?_); rintro e w63 ⟨rfl, hb⟩; refine fu (bb_ BK189.1 hb) (bb_ BK192.1 hb) (ah (bl2_ HB.1 GE189.1 GE192.1) hb) ?_; clear BK189 BK192 HB; intro BK189 BK192 HB; (try clear hb); (try clear hb2); (try clear hk); (try clear hi)))
   go_roundg k2
   case measure => have := HK1.1; have := HK2.1; omega
   case rel => exact ⟨(wrap64 (x32_2 + 1)), sr_, H', ⟨by have := HK1.1; have := HK2.1; omega⟩, ⟨bk_ BK189.1⟩, ⟨bl2_ HB.1 GE189.1 GE192.1⟩⟩
def dP.f (k : Nat) (l0 : List (S41)) : Option (Int) := (aN.f k l0).bind fun t196 => (if t196 = true then ((bq.f k l0).bind fun t197 => (if t197 > 8 then (some 6) else (some 0))) else (some 2))
theorem dP.mono : ∀ a0 k, LeO (dP.f k a0) (dP.f (k + 1) a0) := by
 intro a0 k
 unfold dP.f
 repeat' first
   | (with_reducible exact LeO.refl _)
   | exact bq.mono _ _
   | exact aN.mono _ _
   | exact LeO.none _
   | refine LeO.ite ?_ ?_
   | refine LeO.bind ?_ (fun _ => ?_)
theorem dP.calls (k : Nat) (A0 : Option Addr) (c0 : Nat) (l0 : List (S41)) (r : Int) (w : World) (hr0 : Kd.C k41 w A0 l0.length l0) (hc0 : l0.length ≤ c0) (h : dP.f k l0 = some r) :
  Calls Tryz.prog 22 #[.slice A0 l0.length c0] w fun e w' => e = .returned (.int .i64 r) ∧ Below w.heap.size w w' := by
 have HR0 := af.mk hr0; have HC0 := af.mk hc0; clear hr0 hc0; have HB := af.mk (Below.refl w.heap.size w); have H : ((aN.f k l0).bind fun t196 => (if t196 = true then ((bq.f k l0).bind fun t197 => (if t197 > 8 then (some 6) else (some 0))) else (some 2))) = some r := h; clear h; replace H := bn_ H; obtain ⟨t196, A2, H⟩ := H; (try dsimp only at H); replace H := (sb_ H).symm; obtain ⟨rfl, H⟩ | ⟨rfl, H⟩ := H
 ·
  obtain rfl := Option.some.inj H
  go_enter Tryz.func22, Tryz.ntmps22
  go_wp2_with (first | ((with_reducible refine aj (f := 39) rfl ?_); refine gk_ (some 5) Tryz.func39 (aN.calls k _ _ l0 false _ ?side1 ?side2 A2.1) ?_; (case side1 => repeat (first | exact HR0.1 | (with_reducible refine Kd.dH ?_ _) | (with_reducible refine Kd.dG ?_ _) | (with_reducible refine Kd.fe ?_))); (case side2 => exact HC0.1); rintro e w10 ⟨rfl, hb⟩; refine ⟨_, rfl, ?_⟩; refine gD (ah (bl_ HB.1) hb) ?_; clear hb HB; intro HB))
  go_ret
  exact ⟨er_, bl_ HB.1⟩
 replace H := bn_ H; obtain ⟨t197, A4, H⟩ := H; (try dsimp only at H); replace H := sd_ H; obtain ⟨c5b0, H⟩ | ⟨c5b0, H⟩ := H
 ·
  obtain rfl := Option.some.inj H
  go_enter Tryz.func22, Tryz.ntmps22
  go_wp2_with (first | ((with_reducible refine aj (f := 39) rfl ?_); refine gk_ (some 5) Tryz.func39 (aN.calls k _ _ l0 true _ ?side1 ?side2 A2.1) ?_; (case side1 => repeat (first | exact HR0.1 | (with_reducible refine Kd.dH ?_ _) | (with_reducible refine Kd.dG ?_ _) | (with_reducible refine Kd.fe ?_))); (case side2 => exact HC0.1); rintro e w6 ⟨rfl, hb⟩; refine ⟨_, rfl, ?_⟩; refine gD (ah (bl_ HB.1) hb) ?_; clear hb HB; intro HB) | ((with_reducible refine aj (f := 40) rfl ?_); refine gk_ (some 9) Tryz.func40 (bq.calls k _ _ l0 t197 _ ?side1 ?side2 A4.1) ?_; (case side1 => repeat (first | exact (Kd.di HR0.1 HB.1) | (with_reducible refine Kd.dH ?_ _) | (with_reducible refine Kd.dG ?_ _) | (with_reducible refine Kd.fe ?_))); (case side2 => exact HC0.1); rintro e w7 ⟨rfl, hb⟩; refine ⟨_, rfl, ?_⟩; refine gD (ah (bl_ HB.1) hb) ?_; clear hb HB; intro HB))
  go_ret
  exact ⟨er_, bl_ HB.1⟩
 obtain rfl := Option.some.inj H
 go_enter Tryz.func22, Tryz.ntmps22
 go_wp2_with (first | ((with_reducible refine aj (f := 39) rfl ?_); refine gk_ (some 5) Tryz.func39 (aN.calls k _ _ l0 true _ ?side1 ?side2 A2.1) ?_; (case side1 => repeat (first | exact HR0.1 | (with_reducible refine Kd.dH ?_ _) | (with_reducible refine Kd.dG ?_ _) | (with_reducible refine Kd.fe ?_))); (case side2 => exact HC0.1); rintro e w8 ⟨rfl, hb⟩; refine ⟨_, rfl, ?_⟩; refine gD (ah (bl_ HB.1) hb) ?_; clear hb HB; intro HB) | ((with_reducible refine aj (f := 40) rfl ?_); refine gk_ (some 9) Tryz.func40 (bq.calls k _ _ l0 t197 _ ?side1 ?side2 A4.1) ?_; (case side1 => repeat (first | exact (Kd.di HR0.1 HB.1) | (with_reducible refine Kd.dH ?_ _) | (with_reducible refine Kd.dG ?_ _) | (with_reducible refine Kd.fe ?_))); (case side2 => exact HC0.1); rintro e w9 ⟨rfl, hb⟩; refine ⟨_, rfl, ?_⟩; refine gD (ah (bl_ HB.1) hb) ?_; clear hb HB; intro HB))
 go_ret
 exact ⟨er_, bl_ HB.1⟩
end Go.Proofs.YtkifdadhojbohaaGreatDoor.Pr
namespace Go.Proofs.YtkifdadhojbohaaGreatDoor.Pu
open Go.RowKit Go.Proofs.YtkifdadhojbohaaGreatDoor Go.Proofs.YtkifdadhojbohaaGreatDoor.Pr Go.Proofs.YtkifdadhojbohaaGreatDoorW.PrintWords Go.Proofs.YtkifdadhojbohaaGreatDoorW.PrintLast Go.Proofs.YtkifdadhojbohaaGreatDoorW.PrintMore
theorem word_ok (s : ByteArray) (hs : s.size ≤ 900000) : Ev (fun k => aY.f k 1 s 0 0) (dR 1 (lst s) 0) := valid_f 1 s (by omega) 0 0
theorem formed_f : ∀ l, szL l ≤ 900000 → AllC (txt 900000) l → Ev (fun k => aN.f k l) (gZ l) := by
  have loop : ∀ l, szL l ≤ 900000 → AllC (txt 900000) l → ∀ (A : List S41) (i : Nat), A.drop i = l → A.length ≤ 900000 → i ≤ A.length → Ev (fun k => aN.l0 k A (A.length : Int) (i : Int)) (gZ l) := by
    refine indL ?_ ?_
    · intro _ _ A i hA hn hi
      have : A.length ≤ i := by
        have := congrArg List.length hA
        rw [List.length_drop] at this
        simp at this; omega
      refine Ev.succ ?_
      simp only [aN.l0]
      exact Ev.ifn (by omega) (Ev.ret (by simp [gZ]))
    · intro c l h1 h2 hs hP A i hA hn hi
      rw [szL] at hs
      cases hP with
      | cons _ _ hc hk hr =>
      obtain ⟨hw, ha⟩ := hc
      obtain ⟨a1, a2, a3⟩ := kC hA
      have hc := je c.f3
      have inner : ∀ (d j : Nat) (ats : List S46), c.f1.drop j = ats → j ≤ c.f1.length → c.f1.length - j = d →
          Ev (fun k => aN.l1 k A (A.length : Int) (i : Int) c.f1 (c.f1.length : Int) (j : Int) c.f0 c.f1 c.f2 c.f3 c.f4) (ats.all okA && gZ c.f3 && gZ l) := by
        intro d
        induction d with
        | zero =>
          intro j ats hj hjl hd
          have e : ats = [] := by rw [← hj]; exact List.drop_eq_nil_of_le (by omega)
          subst e
          refine Ev.succ ?_
          simp only [aN.l1]
          refine Ev.ifn (by omega) (Ev.bind (a := gZ c.f3) ?_ ?_)
          · refine Ev.succ ?_
            simp only [aN.f]
            exact h1 (by omega) hk c.f3 0 rfl (by omega) (by omega)
          · cases hf : gZ c.f3 with
            | false => exact Ev.ifn (by simp) (Ev.ret (by simp))
            | true =>
              refine Ev.ifp rfl ?_
              rw [bU i (by omega)]
              simpa using h2 (by omega) hr A (i + 1) a3 hn (by omega)
        | succ d ih =>
          intro j ats hj hjl hd
          cases ats with
          | nil =>
            have := congrArg List.length hj
            rw [List.length_drop] at this
            simp at this; omega
          | cons a ats =>
            obtain ⟨b1, b2, b3⟩ := eP hj
            have hm : a ∈ c.f1 := List.mem_of_mem_drop (by rw [hj]; simp)
            refine Ev.succ ?_
            simp only [aN.l1, b2, atom_f]
            rw [bU j (by omega)]
            refine Ev.ifp (by omega) (Ev.ifp natO (Ev.ifp (by omega) (Ev.val rfl ?_)))
            cases hA' : isA a with
            | false => exact Ev.ifn (by simp) (Ev.ret (by simp [okA, hA']))
            | true =>
              refine Ev.ifp rfl (Ev.bind (valid_f a.f0 a.f1 (by have := ha a hm; omega) a.f2 a.f3) ?_)
              cases hv : dR a.f0 (lst a.f1) a.f2 with
              | false => exact Ev.ifn (by simp) (Ev.ret (by simp [okA, hv]))
              | true =>
                refine Ev.ifp rfl ?_
                have := ih (j + 1) ats b3 (by omega) (by omega)
                simpa [okA, hA', hv] using this
      refine Ev.succ ?_
      simp only [aN.l0, a2]
      refine Ev.ifp (by omega) (Ev.ifp natO (Ev.ifp (by omega) (Ev.bind (word_ok c.f0 hw) ?_)))
      rw [gZ]
      cases hv : dR 1 (lst c.f0) 0 with
      | false => exact Ev.ifn (by simp) (Ev.ret (by simp))
      | true =>
        refine Ev.ifp rfl ?_
        have g := inner c.f1.length 0 c.f1 rfl (by omega) (by omega)
        by_cases hb : c.f2 = true
        · refine Ev.ifp hb ?_
          simpa [hb] using g
        · refine Ev.ifn hb ?_
          by_cases hz : ((c.f3).length : Int) > 0
          · refine Ev.ifp hz (Ev.ret ?_)
            have : c.f3 ≠ [] := by intro e; rw [e] at hz; simp at hz
            simp [hb, this]
          · refine Ev.ifn hz ?_
            have : c.f3 = [] := by
              cases h : c.f3 with
              | nil => rfl
              | cons _ _ => rw [h] at hz; simp at hz
            simpa [this] using g
  intro l hl hP
  have := je l
  refine Ev.succ ?_
  simp only [aN.f]
  exact loop l hl hP l 0 rfl (by omega) (by omega)
theorem Check_f (l : List S41) (hl : szL l ≤ 900000) (hP : AllC (txt 900000) l) : Ev (fun k => dP.f k l) (chkL l) := by
  unfold dP.f chkL
  refine Ev.bind (formed_f l hl hP) ?_
  cases hf : gZ l with
  | false => exact Ev.ifn (by simp) (Ev.ret (by simp))
  | true =>
    refine Ev.ifp rfl (Ev.bind (Depth_f l hl) ?_)
    by_cases h8 : 8 < depL l
    · exact Ev.ifp (by omega) (Ev.ret (by simp [h8]))
    · exact Ev.ifn (by omega) (Ev.ret (by simp [h8]))
end Go.Proofs.YtkifdadhojbohaaGreatDoor.Pu
namespace Go.Proofs.YtkifdadhojbohaaGreatDoor.Pr
open Go.Proofs.YtkifdadhojbohaaGreatDoor
open Go.RowKit Go.Proofs.YtkifdadhojbohaaGreatDoorW.PrintWords Go.Proofs.YtkifdadhojbohaaGreatDoorW.PrintLast Go.Proofs.YtkifdadhojbohaaGreatDoorW.PrintMore
attribute [local go_sem] fU fQ gL gK eT eQ fT fP
end Go.Proofs.YtkifdadhojbohaaGreatDoor.Pr
namespace Go.Proofs.YtkifdadhojbohaaGreatDoor.Pu
open Go.RowKit Go.Proofs.YtkifdadhojbohaaGreatDoor Go.Proofs.YtkifdadhojbohaaGreatDoor.Pr Go.Proofs.YtkifdadhojbohaaGreatDoorW.PrintWords Go.Proofs.YtkifdadhojbohaaGreatDoorW.PrintLast Go.Proofs.YtkifdadhojbohaaGreatDoorW.PrintMore
theorem AllC.mono {P Q : S41 → Prop} (h : ∀ c, P c → Q c) {l : List S41} (hl : AllC P l) : AllC Q l := by
  induction hl with
  | nil => exact AllC.nil
  | cons c l hc _ _ ih1 ih2 => exact AllC.cons c l (h c hc) ih1 ih2
theorem toks_valid (n : Nat) (hn : 1 ≤ n) : ∀ l, gZ l = true → AllC (txt n) l → ∀ t ∈ dD l, dR t.f0 (lst t.f1) t.f2 = true ∧ t.f0 ≠ 5 ∧ t.f1.size ≤ n := by
  refine indL ?_ ?_
  · intro _ _ t ht
    rw [dD] at ht; cases ht
  · intro c l h1 h2 hf hP t ht
    rw [gZ] at hf
    simp only [Bool.and_eq_true] at hf
    obtain ⟨⟨⟨⟨f1, f2⟩, f3⟩, f4⟩, f5⟩ := hf
    cases hP with
    | cons _ _ hc hk hr =>
    have hsg : ∀ b : UInt8, kindOf b.toNat = 5 → dR (sgT b).f0 (lst (sgT b).f1) (sgT b).f2 = true ∧ (sgT b).f0 ≠ 5 ∧ (sgT b).f1.size ≤ n := by
      intro b hb
      refine ⟨?_, show (4 : Int) ≠ 5 by decide, hn⟩
      show dR 4 [b] 0 = true
      unfold dR
      simp [hb]
    rw [dD] at ht
    rcases List.mem_append.1 ht with ht | ht
    · rcases List.mem_append.1 ht with ht | ht
      · rcases List.mem_cons.1 ht with rfl | ht
        · exact ⟨f1, by show (1 : Int) ≠ 5; decide, hc.1⟩
        · have := List.all_eq_true.1 f3 t ht
          unfold okA at this
          rw [Bool.and_eq_true] at this
          refine ⟨this.2, ?_, hc.2 t ht⟩
          intro h5
          have h := this.1
          simp [isA, h5] at h
      · by_cases hb : c.f2 = true
        · rw [if_pos hb] at ht
          rcases List.mem_append.1 ht with ht | ht
          · rcases List.mem_cons.1 ht with rfl | ht
            · exact hsg 123 (by decide)
            · exact h1 f4 hk t ht
          · rw [List.mem_singleton] at ht
            subst ht
            exact hsg 125 (by decide)
        · rw [if_neg hb, List.mem_singleton] at ht
          subst ht
          exact hsg 59 (by decide)
    · exact h2 f5 hr t ht
def iN (ts : List S46) : Nat := (ts.map fun t => (sp t).length).sum
theorem jw (a b : List S46) : iN (a ++ b) = iN a + iN b := by simp [iN]
theorem il (t : S46) (a : List S46) : iN (t :: a) = (sp t).length + iN a := by simp [iN]
theorem atoms_len : ∀ (a : List S46) (p : Option S46), (dS p a).length ≤ iN a + a.length
  | [], _ => by simp [dS, iN]
  | t :: a, p => by
    have := atoms_len a (some t)
    rw [dS, il, List.length_append, List.length_append, List.length_cons]
    have : (if glue p t = true then ([] : List UInt8) else [32]).length ≤ 1 := by split <;> simp
    omega
theorem sp_sg (b : UInt8) : (sp (sgT b)).length = 1 := by
  show (dL 4 [b] 0).length = 1
  simp [dL]
theorem src_len : ∀ l n, (srcL n l).length ≤ iN (dD l) + (dD l).length + (n + 2 * depL l + 1) * (dD l).length := by
  refine indL ?_ ?_
  · intro n; simp [srcL]
  · intro c l h1 h2 n
    have hat := atoms_len c.f1 none
    have hw : (sp ⟨1, c.f0, 0, 0⟩).length = (lst c.f0).length := by show (dL 1 (lst c.f0) 0).length = _; simp [dL]
    have hl := h2 n
    have hk := h1 (n + 2)
    by_cases hb : c.f2 = true
    · have hd : depL (c :: l) = max (1 + depL c.f3) (depL l) := by rw [depL, if_pos hb]
      have ht : (dD (c :: l)).length = c.f1.length + 3 + (dD c.f3).length + (dD l).length := by
        rw [dD, if_pos hb]; simp; omega
      have hs : iN (dD (c :: l)) = (lst c.f0).length + iN c.f1 + 2 + iN (dD c.f3) + iN (dD l) := by
        rw [dD, if_pos hb, jw, jw, il, jw, il, il, hw, sp_sg, sp_sg]
        simp [iN]; omega
      have hx : (srcL n (c :: l)).length = n + ((lst c.f0).length + ((dS none c.f1).length + 2)) + 1 + ((srcL (n + 2) c.f3).length + (n + 2)) + (srcL n l).length := by
        rw [srcL, if_pos hb]
        unfold gu
        rw [if_pos hb]
        simp only [List.length_append, List.length_cons, List.length_replicate, List.length_nil]
        omega
      rw [hx, ht, hs, hd]
      generalize hM : n + 2 * max (1 + depL c.f3) (depL l) + 1 = M
      have m1 : (n + 2 + 2 * depL c.f3 + 1) * (dD c.f3).length ≤ M * (dD c.f3).length := Nat.mul_le_mul_right _ (by omega)
      have m2 : (n + 2 * depL l + 1) * (dD l).length ≤ M * (dD l).length := Nat.mul_le_mul_right _ (by omega)
      have m3 : M * 3 ≤ M * (c.f1.length + 3) := Nat.mul_le_mul_left _ (by omega)
      have m4 : M * (c.f1.length + 3 + (dD c.f3).length + (dD l).length) = M * (c.f1.length + 3) + M * (dD c.f3).length + M * (dD l).length := by rw [Nat.mul_add, Nat.mul_add]
      rw [m4]
      omega
    · have hd : depL (c :: l) = max 0 (depL l) := by rw [depL, if_neg hb]
      have ht : (dD (c :: l)).length = c.f1.length + 2 + (dD l).length := by
        rw [dD, if_neg hb]; simp; omega
      have hs : iN (dD (c :: l)) = (lst c.f0).length + iN c.f1 + 1 + iN (dD l) := by
        rw [dD, if_neg hb, jw, jw, il, il, hw, sp_sg]
        simp [iN]
      have hx : (srcL n (c :: l)).length = n + ((lst c.f0).length + ((dS none c.f1).length + 1)) + 1 + (srcL n l).length := by
        rw [srcL, if_neg hb]
        unfold gu
        rw [if_neg hb]
        simp only [List.length_append, List.length_cons, List.length_replicate, List.length_nil, List.nil_append]
        omega
      rw [hx, ht, hs, hd]
      generalize hM : n + 2 * max 0 (depL l) + 1 = M
      have m2 : (n + 2 * depL l + 1) * (dD l).length ≤ M * (dD l).length := Nat.mul_le_mul_right _ (by omega)
      have m3 : M * 2 ≤ M * (c.f1.length + 2) := Nat.mul_le_mul_left _ (by omega)
      have m4 : M * (c.f1.length + 2 + (dD l).length) = M * (c.f1.length + 2) + M * (dD l).length := by rw [Nat.mul_add]
      rw [m4]
      omega
def SpA (k : Nat) (t : S46) : Prop := dN.f k t.f0 t.f1 t.f2 t.f3 = some (str (sp t), 0)
def SpG (k : Nat) (l : List S41) : Prop := (srcL 0 l).length ≤ 70368744177664 ∧ szL l ≤ 70368744177664 ∧ AllC (fun c => ∀ t ∈ c.f1, SpA k t) l
instance decAll {P : S41 → Prop} [DecidablePred P] (l : List S41) : Decidable (AllC P l) := match l with
  | [] => isTrue AllC.nil
  | c :: l =>
    if h1 : P c then
      match decAll (P := P) c.f3, decAll (P := P) l with
      | isTrue h2, isTrue h3 => isTrue (AllC.cons c l h1 h2 h3)
      | isFalse h2, _ => isFalse fun h => by cases h; exact h2 (by assumption)
      | _, isFalse h3 => isFalse fun h => by cases h; exact h3 (by assumption)
    else isFalse fun h => by cases h; exact h1 (by assumption)
termination_by SizeOf.sizeOf l
decreasing_by
  · exact iP c l
  · exact iO c l
instance (k : Nat) (t : S46) : Decidable (SpA k t) := by unfold SpA; infer_instance
instance (k : Nat) (l : List S41) : Decidable (SpG k l) := by unfold SpG; infer_instance
theorem SpA.mono {k : Nat} {t : S46} (h : SpA k t) : SpA (k + 1) t := dN.mono _ _ _ _ _ _ h
theorem SpG.mono {k : Nat} {l : List S41} (h : SpG k l) : SpG (k + 1) l := ⟨h.1, h.2.1, h.2.2.mono fun _ hc t ht => (hc t ht).mono⟩
theorem dec_lenU : ∀ n, (Lib.decDigits n).length ≤ n + 1 := by
  intro n
  induction n using Nat.strongRecOn with
  | _ n ih =>
    rw [Lib.decDigits]
    split
    · simp
    · have := ih (n / 10) (by omega)
      rw [List.length_append]
      simp only [List.length_cons, List.length_nil]
      omega
theorem num_len (n : Nat) : (numS n).length ≤ n / 1000 + 5 := by
  have h1 := dec_lenU (n / 1000)
  have h2 := (cut_fin ⟨n % 1000, by omega⟩).2.1
  unfold numS
  rw [List.length_append]
  split
  · simp only [List.length_nil]; omega
  · simp only [List.length_cons]
    have h3 : (cutZ (three (n % 1000))).length ≤ 3 := h2
    omega
theorem sp_len (t : S46) : (sp t).length ≤ t.f1.size + 1000010 := by
  unfold sp dL
  have hl : (lst t.f1).length = t.f1.size := aI _
  split
  · simp only [List.cons_append, List.length_cons, List.length_append, List.length_nil]; omega
  · split
    · split
      · have := num_len t.f2.toNat
        omega
      · simp
    · split
      · omega
      · simp
theorem spsum_le (n : Nat) : ∀ ts : List S46, (∀ t ∈ ts, t.f1.size ≤ n) → iN ts ≤ ts.length * (n + 1000010)
  | [], _ => by simp [iN]
  | t :: ts, h => by
    have h1 := sp_len t
    have h2 := h t (by simp)
    have h3 := spsum_le n ts fun u hu => h u (by simp [hu])
    rw [il, List.length_cons, Nat.add_mul]
    omega
theorem SpG_f (l : List S41) (hl : szL l ≤ 900000) (hP : AllC (txt 900000) l) (hf : gZ l = true) (hd : depL l ≤ 8) : ∃ K, ∀ k, K ≤ k → SpG k l := by
  have hv := toks_valid 900000 (by omega) l hf hP
  have hlen : (srcL 0 l).length ≤ 70368744177664 := by
    have h1 := src_len l 0
    have h2 := spsum_le 900000 (dD l) fun t ht => (hv t ht).2.2
    have h3 := toks_le l
    have h4 : (0 + 2 * depL l + 1) * (dD l).length ≤ 17 * (dD l).length := Nat.mul_le_mul_right _ (by omega)
    omega
  have row : ∀ ts : List S46, (∀ t ∈ ts, dR t.f0 (lst t.f1) t.f2 = true ∧ t.f1.size ≤ 900000) → ∃ K, ∀ k, K ≤ k → ∀ t ∈ ts, SpA k t := by
    intro ts
    induction ts with
    | nil => intro _; exact ⟨0, fun _ _ t ht => by cases ht⟩
    | cons t ts ih =>
      intro h
      obtain ⟨K1, h1⟩ := ih fun u hu => h u (by simp [hu])
      obtain ⟨K2, h2⟩ := Spell_f t.f0 t.f1 (by have := (h t (by simp)).2; omega) t.f2 t.f3
      rw [if_pos (h t (by simp)).1] at h2
      refine ⟨K1 + K2, fun k hk u hu => ?_⟩
      rcases List.mem_cons.1 hu with rfl | hu
      · exact h2 k (by omega)
      · exact h1 k (by omega) u hu
  have all : ∀ l : List S41, gZ l = true → AllC (txt 900000) l → ∃ K, ∀ k, K ≤ k → AllC (fun c => ∀ t ∈ c.f1, SpA k t) l := by
    refine indL (fun _ _ => ⟨0, fun _ _ => AllC.nil⟩) ?_
    intro c l h1 h2 hf hP
    have hv := toks_valid 900000 (by omega) (c :: l) hf hP
    rw [gZ] at hf
    simp only [Bool.and_eq_true] at hf
    obtain ⟨⟨⟨⟨f1, f2⟩, f3⟩, f4⟩, f5⟩ := hf
    cases hP with
    | cons _ _ hc hk hr =>
    obtain ⟨K1, g1⟩ := h1 f4 hk
    obtain ⟨K2, g2⟩ := h2 f5 hr
    obtain ⟨K3, g3⟩ := row c.f1 fun t ht => by
      have := List.all_eq_true.1 f3 t ht
      unfold okA at this
      rw [Bool.and_eq_true] at this
      exact ⟨this.2, hc.2 t ht⟩
    exact ⟨K1 + K2 + K3, fun k hk => AllC.cons c l (g3 k (by omega)) (g1 k (by omega)) (g2 k (by omega))⟩
  obtain ⟨K, g⟩ := all l hf hP
  exact ⟨K, fun k hk => ⟨hlen, by omega, g k hk⟩⟩
end Go.Proofs.YtkifdadhojbohaaGreatDoor.Pu
namespace Go.Proofs.YtkifdadhojbohaaGreatDoor.Pr
open Go.RowKit Go.Proofs.YtkifdadhojbohaaGreatDoor Go.Proofs.YtkifdadhojbohaaGreatDoorW.PrintWords Go.Proofs.YtkifdadhojbohaaGreatDoorW.PrintLast Go.Proofs.YtkifdadhojbohaaGreatDoorW.PrintMore
def dA.f (k : Nat) (l : List S41) : Option (ByteArray × Int) := (dP.f k l).bind fun e => if e = 0 then (if Pu.SpG k l then (if 65536 < (Pu.srcL 0 l).length then some ((⟨#[]⟩ : ByteArray), 6) else some (Pu.str (Pu.srcL 0 l), 0)) else none) else some ((⟨#[]⟩ : ByteArray), e)
theorem dA.mono : ∀ l k, LeO (dA.f k l) (dA.f (k + 1) l) := fun l k =>
  LeO.bind (dP.mono _ _) (fun _ => LeO.ite (fun r h => by
    by_cases hs : Pu.SpG k l
    · rw [if_pos hs] at h
      rw [if_pos hs.mono]
      exact h
    · rw [if_neg hs] at h
      cases h) (LeO.refl _))
end Go.Proofs.YtkifdadhojbohaaGreatDoor.Pr
namespace Go.Proofs.YtkifdadhojbohaaGreatDoor.Pu
open Go.RowKit Go.Proofs.YtkifdadhojbohaaGreatDoor Go.Proofs.YtkifdadhojbohaaGreatDoor.Pr Go.Proofs.YtkifdadhojbohaaGreatDoorW.PrintWords Go.Proofs.YtkifdadhojbohaaGreatDoorW.PrintLast Go.Proofs.YtkifdadhojbohaaGreatDoorW.PrintMore
def printA (l : List S41) : ByteArray × Int := if chkL l = 0 then (if 65536 < (srcL 0 l).length then ((⟨#[]⟩ : ByteArray), 6) else (str (srcL 0 l), 0)) else ((⟨#[]⟩ : ByteArray), chkL l)
theorem Print_f (l : List S41) (hl : szL l ≤ 900000) (hP : AllC (txt 900000) l) : Ev (fun k => dA.f k l) (printA l) := by
  unfold dA.f printA
  refine Ev.bind (Check_f l hl hP) ?_
  by_cases hc : chkL l = 0
  · rw [hc]
    refine Ev.ifp rfl ?_
    rw [if_pos rfl]
    have hfd : gZ l = true ∧ depL l ≤ 8 := by
      unfold chkL at hc
      split at hc
      · rename_i hf
        split at hc
        · cases hc
        · exact ⟨hf, by omega⟩
      · cases hc
    obtain ⟨K, g⟩ := SpG_f l hl hP hfd.1 hfd.2
    refine ⟨K, fun k hk => ?_⟩
    refine (if_pos (g k hk)).trans ?_
    split <;> rfl
  · rw [if_neg hc]
    exact Ev.ifn hc (Ev.now _)
theorem SmL.symm {p : Bool} {a b : List S41} (h : SmL p a b) : SmL p b a := by
  induction h with
  | nil => exact SmL.nil
  | cons c d a b h0 h2 h1 h4 hl1 hl2 hk hr ihk ihr =>
    have e := hr.length.1
    have e1 : c.f1.length = d.f1.length := by simpa using congrArg List.length h1
    exact SmL.cons d c b a h0.symm h2.symm h1.symm (fun hp => (h4 hp).symm) (by omega) (by omega) ihk ihr
theorem src_fits {s : ByteArray} (hs : s.size ≤ 1500) {cs : List S41} (h : PA s (cs, 0, 0)) : (srcL 0 cs).length ≤ 65536 := by
  obtain ⟨us, h1, h2, h3, h4, h5, h6, h7, h8, h9, _⟩ := h.facts (by omega)
  have hk := PA.keys (by omega) h1 h2
  obtain ⟨vs, e, _, _, _, g4⟩ := lex_good _ _ _ (by rw [aI]; omega) h1
  obtain rfl : us = vs := List.append_cancel_right e
  rw [aI] at g4
  have hsp : iN (dD cs) = (us.map fun u => (dL u.kind u.text u.n).length).sum := by
    have a : iN (dD cs) = (((dD cs).map k3).map fun u => (dL u.1 u.2.1 u.2.2).length).sum := by
      rw [List.map_map]; rfl
    rw [a, ← hk, List.map_map]; rfl
  have hl := src_len cs 0
  rw [h5, hsp] at hl
  have m : (0 + 2 * depL cs + 1) * us.length ≤ 17 * us.length := Nat.mul_le_mul_right _ (by omega)
  omega
end Go.Proofs.YtkifdadhojbohaaGreatDoor.Pu
namespace Go.Proofs.YtkifdadhojbohaaGreatDoor
open Go.RowKit Go.Proofs.YtkifdadhojbohaaGreatDoorW.PrintWords Go.Proofs
def strings_Contains.f (s t : ByteArray) : Option Bool := match t.data.toList with
  | [c] => some (decide (0 ≤ Lib.indexByte s.data.toList c))
  | _ => none
theorem strings_Contains.calls (a0 a1 : ByteArray) (r : Bool) (w : World) (h : strings_Contains.f a0 a1 = some r) :
    Calls Tryz.prog 61 #[.string a0, .string a1] w fun e w' => e = .returned (.bool r) ∧ Below w.heap.size w w' := by
  unfold strings_Contains.f at h
  split at h
  · rename_i c hc
    obtain rfl := Option.some.inj h
    have e : a1 = ⟨#[c]⟩ := by
      cases a1 with
      | mk d =>
        cases d with
        | mk l =>
          have : l = [c] := hc
          rw [this]
    rw [e]
    exact (Tryz.strings_Contains_one a0 c w).mono fun e w' ⟨he, hw⟩ => ⟨he, hw ▸ Below.refl _ _⟩
  · cases h
end Go.Proofs.YtkifdadhojbohaaGreatDoor
namespace Go.Proofs.YtkifdadhojbohaaGreatDoor.Pr
open Go.Proofs.YtkifdadhojbohaaGreatDoor
open Go.RowKit Go.Proofs.YtkifdadhojbohaaGreatDoorW.PrintWords Go.Proofs.YtkifdadhojbohaaGreatDoorW.PrintLast Go.Proofs.YtkifdadhojbohaaGreatDoorW.PrintMore
attribute [local go_sem] fU fQ gL gK eT eQ fT fP
def ed.f (a0_0 : Int) (a0_1 : ByteArray) (a0_2 : Int) (a0_3 : Int) (a1 : ByteArray) : Option (Bool) := if a0_0 = 4 then (if (a0_1.size : Int) = 1 then ((strings_Contains.f a1 a0_1).bind fun t577 => (some t577)) else (some false)) else (some false)
theorem ed.calls (a0_0 : Int) (a0_1 : ByteArray) (a0_2 : Int) (a0_3 : Int) (a1 : ByteArray) (r : Bool) (w : World) (h : ed.f a0_0 a0_1 a0_2 a0_3 a1 = some r) :
  Calls Tryz.prog 42 #[.agg #[.int .i64 a0_0, .string a0_1, .int .i64 a0_2, .int .i64 a0_3], .string a1] w fun e w' => e = .returned (.bool r) ∧ Below w.heap.size w w' := by
 have hu46 := Tryz.underlying50; have HB := af.mk (Below.refl w.heap.size w); have H : (if a0_0 = 4 then (if (a0_1.size : Int) = 1 then ((strings_Contains.f a1 a0_1).bind fun t577 => (some t577)) else (some false)) else (some false)) = some r := h; clear h; replace H := (sp_ H).symm; obtain ⟨c3, H⟩ | ⟨c3, H⟩ := H
 ·
  have c3b0 := beq_eq_false_iff_ne.mpr c3; have c3b1 := bne_iff_ne.mpr c3; obtain rfl := Option.some.inj H
  go_enter Tryz.func42, Tryz.ntmps42
  go_wp2_with (first | ((with_reducible refine aA (N := 2) rfl ?_); (try (refine bE (by rfl) ?_; dsimp only)); refine bx_ (N := 2) (cs := #[.int .i64 a0_0, .string a0_1, .int .i64 a0_2, .int .i64 a0_3]) (t := 50) ?_; intro gb576 hg w11 hbox hb; refine df (ah (bl_ HB.1) hb) (hbox) (bz_ (w := w) hg (bl_ HB.1)) (bz_ (w := w) hg (bl_ HB.1)) ?_; clear HB; intro HB BK576 GW576 GE576; clear hb hbox hg; obtain ⟨hcz12_0, hcz12_1, hcz12_2, hcz12_3, hfz12_0, hfz12_1, hfz12_2, hfz12_3⟩ := cq4_ BK576.1))
  go_ret
  exact ⟨er_, bl1_ HB.1 GE576.1⟩
 have c3b0 := beq_iff_eq.mpr c3; have c3b1 := bne_eq_false_iff_eq.mpr c3; clear c3; replace H := (sp_ H).symm; obtain ⟨c4, H⟩ | ⟨c4, H⟩ := H
 ·
  have c4b0 := beq_eq_false_iff_ne.mpr c4; have c4b1 := bne_iff_ne.mpr c4; obtain rfl := Option.some.inj H
  go_enter Tryz.func42, Tryz.ntmps42
  go_wp2_with (first | ((with_reducible refine aA (N := 2) rfl ?_); (try (refine bE (by rfl) ?_; dsimp only)); refine bx_ (N := 2) (cs := #[.int .i64 a0_0, .string a0_1, .int .i64 a0_2, .int .i64 a0_3]) (t := 50) ?_; intro gb576 hg w9 hbox hb; refine df (ah (bl_ HB.1) hb) (hbox) (bz_ (w := w) hg (bl_ HB.1)) (bz_ (w := w) hg (bl_ HB.1)) ?_; clear HB; intro HB BK576 GW576 GE576; clear hb hbox hg; obtain ⟨hcz10_0, hcz10_1, hcz10_2, hcz10_3, hfz10_0, hfz10_1, hfz10_2, hfz10_3⟩ := cq4_ BK576.1))
  go_ret
  exact ⟨er_, bl1_ HB.1 GE576.1⟩
 have c4b0 := beq_iff_eq.mpr c4; have c4b1 := bne_eq_false_iff_eq.mpr c4; clear c4; replace H := bn_ H; obtain ⟨t577, A5, H⟩ := H; (try dsimp only at H); obtain rfl := Option.some.inj H
 go_enter Tryz.func42, Tryz.ntmps42
 go_wp2_with (first | ((with_reducible refine aA (N := 2) rfl ?_); (try (refine bE (by rfl) ?_; dsimp only)); refine bx_ (N := 2) (cs := #[.int .i64 a0_0, .string a0_1, .int .i64 a0_2, .int .i64 a0_3]) (t := 50) ?_; intro gb576 hg w6 hbox hb; refine df (ah (bl_ HB.1) hb) (hbox) (bz_ (w := w) hg (bl_ HB.1)) (bz_ (w := w) hg (bl_ HB.1)) ?_; clear HB; intro HB BK576 GW576 GE576; clear hb hbox hg; obtain ⟨hcz7_0, hcz7_1, hcz7_2, hcz7_3, hfz7_0, hfz7_1, hfz7_2, hfz7_3⟩ := cq4_ BK576.1) | (go_at_call 61; (with_reducible refine (strings_Contains.calls a1 a0_1 t577 _ A5.1).mono ?_); rintro e w8 ⟨rfl, hb⟩; refine fK (bb_ BK576.1 hb) (ah (bl1_ HB.1 GE576.1) hb) ?_; clear BK576 HB; intro BK576 HB; (try clear hb); (try clear hb2); (try clear hk); (try clear hi)))
 go_ret
 exact ⟨er_, bl1_ HB.1 GE576.1⟩
theorem IsB.below {B b : Nat} {s : List UInt8} {w w1 : World} (h : IsB B b s w) (hb : Below w.heap.size w w1) : IsB B b s w1 := by
  have key : ∀ p, Lib.BuilderAt 55 5 B b p (Lib.byteCells s) w → Lib.BuilderAt 55 5 B b p (Lib.byteCells s) w1 := by
    rintro p ⟨hB, v, hbk, hown, hne⟩
    refine ⟨hB, v, aZ hbk hb, hown.kept (row := none) (jb hb none) ?_, hne⟩
    cases hv : v.ownBlock with
    | none => exact Or.inl rfl
    | some k => exact Or.inr (by simp)
  rcases h with h | h
  · exact Or.inl (key _ h)
  · exact Or.inr (key _ h)
structure FI (w : World) (g1 g3 : Nat) (cs : Array Value) (s : List UInt8) (w' : World) : Prop where
  hB : Below w.heap.size w w'
  k1 : w'.heap[g1]? = some (.cells cs 25 (0, 0))
  n1 : g1 ≠ g3
  ib : IsB w.heap.size g3 s w'
theorem FI.below {w : World} {g1 g3 : Nat} {cs : Array Value} {s : List UInt8} {w1 w2 : World} (h : FI w g1 g3 cs s w1) (hb : Below w1.heap.size w1 w2) : FI w g1 g3 cs s w2 :=
  ⟨ah h.hB hb, aZ h.k1 hb, h.n1, IsB.below h.ib hb⟩
theorem FI.step {w : World} {g1 g3 : Nat} {cs : Array Value} {s s' : List UInt8} {w1 w2 : World} (h : FI w g1 g3 cs s w1) (m1 : IsB w.heap.size g3 s' w2) (m2 : Below w.heap.size w1 w2) (m3 : fI g3 w1 w2) : FI w g1 g3 cs s' w2 :=
  ⟨h.hB.trans m2, m3 g1 _ _ _ (by decide) h.n1 h.k1, h.n1, m1⟩
theorem FI.size {w : World} {g1 g3 : Nat} {cs : Array Value} {s : List UInt8} {w1 : World} (h : FI w g1 g3 cs s w1) : w.heap.size ≤ w1.heap.size := bH h.hB
def prv (l : List S46) (x : Int) : Option S46 := if x = 0 then none else some (ag l (x - 1))
open Go.Shelf Go.Proofs
open Go.Proofs.YtkifdadhojbohaaGreatDoor.Pu (isS sp glue dS gu srcL str SpA SpG lst)
theorem sign_one (t : S46) : ed.f t.f0 t.f1 t.f2 t.f3 (⟨#[40]⟩ : ByteArray) = some (isS t 40) := by
  unfold ed.f isS
  by_cases h : t.f0 = 4
  · rw [if_pos h, h]
    have hl := Pu.aI t.f1
    by_cases h1 : (t.f1.size : Int) = 1
    · rw [if_pos h1]
      unfold strings_Contains.f
      match hm : t.f1.data.toList with
      | [c] =>
        simp only [Option.bind_some]
        show some (decide (0 ≤ Lib.indexByte [40] c)) = some ((4 : Int) == 4 && lst t.f1 == [40])
        have : lst t.f1 = [c] := hm
        rw [this]
        by_cases hc : c = 40
        · subst hc; decide
        · have hc' : ¬ 40 = c := fun e => hc e.symm
          simp [Lib.indexByte, hc, hc']
      | [] => rw [show lst t.f1 = [] from hm] at hl; simp at hl; omega
      | a :: b :: m => rw [show lst t.f1 = a :: b :: m from hm] at hl; simp at hl; omega
    · rw [if_neg h1]
      congr 1
      symm
      rw [Bool.and_eq_false_iff]
      right
      rw [beq_eq_false_iff_ne]
      intro e
      rw [e] at hl
      simp at hl
      omega
  · rw [if_neg h]
    congr 1
    symm
    rw [Bool.and_eq_false_iff]
    left
    exact beq_eq_false_iff_ne.2 h
theorem sign_two (t : S46) : ed.f t.f0 t.f1 t.f2 t.f3 (⟨#[41, 44]⟩ : ByteArray) = some (isS t 41 || isS t 44) := by
  unfold ed.f isS
  by_cases h : t.f0 = 4
  · rw [if_pos h, h]
    have hl := Pu.aI t.f1
    by_cases h1 : (t.f1.size : Int) = 1
    · rw [if_pos h1]
      unfold strings_Contains.f
      match hm : t.f1.data.toList with
      | [c] =>
        simp only [Option.bind_some]
        show some (decide (0 ≤ Lib.indexByte [41, 44] c)) = some ((4 : Int) == 4 && lst t.f1 == [41] || (4 : Int) == 4 && lst t.f1 == [44])
        have : lst t.f1 = [c] := hm
        rw [this]
        by_cases hc : c = 41
        · subst hc; decide
        · by_cases hd : c = 44
          · subst hd; decide
          · have hc' : ¬ 41 = c := fun e => hc e.symm
            have hd' : ¬ 44 = c := fun e => hd e.symm
            simp [Lib.indexByte, hc, hd, hc', hd']
      | [] => rw [show lst t.f1 = [] from hm] at hl; simp at hl; omega
      | a :: b :: m => rw [show lst t.f1 = a :: b :: m from hm] at hl; simp at hl; omega
    · rw [if_neg h1]
      congr 1
      symm
      rw [Bool.or_eq_false_iff]
      constructor
      all_goals
        rw [Bool.and_eq_false_iff]
        right
        rw [beq_eq_false_iff_ne]
        intro e
        rw [e] at hl
        simp at hl
        omega
  · rw [if_neg h]
    congr 1
    symm
    rw [show (t.f0 == 4) = false from beq_eq_false_iff_ne.2 h]
    rfl
theorem atoms_at (l : List S46) (x : Int) (h0 : 0 ≤ x) (h1 : x < l.length) :
    dS (prv l x) (l.drop x.toNat) = (if glue (prv l x) (ag l x) = true then [] else [32]) ++ (sp (ag l x) ++ dS (prv l (x + 1)) (l.drop (x + 1).toNat)) := by
  obtain ⟨n, rfl⟩ : ∃ n : Nat, x = n := ⟨x.toNat, by omega⟩
  have hn : n < l.length := by omega
  have e1 : (↑n : Int).toNat = n := rfl
  have e2 : (↑n + 1 : Int).toNat = n + 1 := by omega
  have hr : ag l ↑n = l[n] := by unfold ag; rw [e1, List.getD_eq_getElem?_getD, List.getElem?_eq_getElem hn]; rfl
  have hp : prv l (↑n + 1) = some l[n] := by unfold prv; rw [if_neg (by omega), show ((n : Int) + 1 - 1) = n by omega, hr]
  rw [e1, e2, hp, hr, List.drop_eq_getElem_cons hn, dS]
theorem String_a (B b : Nat) (l : List UInt8) (w : World) (h : IsB B b l w) (hB : B ≤ w.heap.size) : Calls Tryz.prog 30 #[.pointer (some ⟨b, 0, none⟩)] w fun e w' => e = .returned (.string (str l)) ∧ Below B w w' := Any.Builder_String_any (ρ := kL) bld169 jo B b l w h hB
theorem kM (B b : Nat) (l : List UInt8) (w : World) (h : IsB B b l w) (hlen : l.length + 1 ≤ 140737488355328) (hBw : B ≤ w.heap.size) :
    Calls Tryz.prog 43 #[.pointer (some ⟨b, 0, none⟩), .int .u8 32] w fun e w' => e = .returned .nilIface ∧ IsB B b (l ++ [32]) w' ∧ Below B w w' ∧ fI b w w' := WriteByte_s B b l 32 w h hlen hBw
theorem str_app (a b : List UInt8) : str a ++ (⟨b.toArray⟩ : ByteArray) = str (a ++ b) := by
  apply ByteArray.ext
  simp [str]
theorem rd_mem (l : List S46) (x : Int) (h0 : 0 ≤ x) (h1 : x < l.length) : ag l x ∈ l := by
  unfold ag
  have hn : x.toNat < l.length := by omega
  rw [List.getD_eq_getElem?_getD, List.getElem?_eq_getElem hn]
  exact List.getElem_mem hn
theorem kT {x : Int} (h0 : -9223372036854775808 ≤ x) (h1 : x < 9223372036854775808) : wrap64 x = x := by unfold wrap64; omega
theorem IsB.lt {B b : Nat} {s : List UInt8} {w : World} (h : IsB B b s w) : b < w.heap.size := by
  rcases h with h | h
  · exact h.lt
  · exact h.lt
theorem first_s (k : Nat) (w : World) (hG : Gl w) (a0 : ByteArray) (A1 : Option Addr) (c1 : Nat) (l1 : List S46) (b2 : Bool) (A3 : Option Addr) (n3 c3 : Nat) (a4 : Int) (hr : Kd.C k46 w A1 l1.length l1) (hc : l1.length ≤ c1) (hok : ∀ t ∈ l1, SpA k t) (hn : l1.length ≤ 70368744177664) (hlen : (lst a0 ++ dS none l1).length ≤ 70368744177664) :
    Calls Tryz.prog 23 #[.agg #[.string a0, .slice A1 l1.length c1, .bool b2, .slice A3 n3 c3, .int .i64 a4]] w fun e w' => e = .returned (.string (str ((lst a0 ++ dS none l1) ++ (if b2 = true then [32, 123] else [59])))) ∧ Below w.heap.size w w' := by
  have hu41 := Tryz.underlying25
  have hu46 := Tryz.underlying50
  have hu94 := Tryz.underlying55
  have HR := af.mk hr
  have HC := af.mk hc
  have HG := af.mk hG
  have HO := af.mk hok
  have HL := af.mk hlen
  have HN := af.mk hn
  clear hr hc hG hok hlen hn
  have HB := af.mk (Below.refl w.heap.size w)
  go_enter Tryz.func23, Tryz.ntmps23
  go_wp2_with (first
    | ((with_reducible refine aA (N := 1) rfl ?_); refine eY ?hg (N := 1) ?hd (cs := #[.string a0, .slice A1 l1.length c1, .bool b2, .slice A3 n3 c3, .int .i64 a4]) (t := 25) ?hr ?_; (case hd => rfl); (case hg => rfl); (case hr => first | (go_simp; done) | (go_simp; rfl)); intro g1 hg w1 hbox hb; have n0_ := af.mk (ah HB.1 hb); have n1_ := af.mk hbox; have n2_ := af.mk ((by rw [hg]; exact Nat.le_refl _) : w.heap.size ≤ g1); clear HB; have HB := n0_; have BK1 := n1_; have GE1 := n2_; clear n0_ n1_ n2_ hb hbox hg)
    | ((with_reducible refine aA (N := 3) rfl ?_); refine eY ?hg (N := 3) ?hd (cs := #[.pointer none, .slice none 0 0]) (t := 55) ?hr ?_; (case hd => rfl); (case hg => rfl); (case hr => first | (go_simp; done) | (go_simp; rfl)); intro g3 hg w2 hbox hb; have n0_ := af.mk (ah HB.1 hb); have n1_ := af.mk (aZ BK1.1 hb); have n2_ := af.mk hbox; have n3_ := af.mk ((by rw [hg]; exact bH HB.1) : w.heap.size ≤ g3); have n4_ := af.mk ((by rw [hg]; exact Nat.ne_of_lt (gy BK1.1)) : g1 ≠ g3); clear HB BK1; have HF : af (FI w g1 g3 #[.string a0, .slice A1 l1.length c1, .bool b2, .slice A3 n3 c3, .int .i64 a4] [] w2) := ⟨⟨n0_.out, n1_.out, n4_.out, Or.inl ⟨n3_.out, .slice none 0 0, n2_.out, World.ownsRow_nil _ _ _ _, by simp [Value.ownBlock]⟩⟩⟩; clear n0_ n1_ n2_ n3_ n4_ hb hbox hg; have q0 : w2.cell? ⟨g1, 0, none⟩ = some (.string a0) := (ax HF.1.k1 0).trans rfl)
    | ((with_reducible refine aj (f := 41) rfl ?_); (with_reducible refine aA (N := 10) rfl ?_); refine dW (some 10) rfl rfl Tryz.func41 (by kernel_rfl) rfl #[.pointer (some ⟨g3, 0, none⟩), .string a0] rfl (by (try simp only [List.map_toArray, List.map_cons, List.map_nil]); first | done | rfl) ?_; (with_reducible refine (gI w.heap.size g3 [] a0 _ HF.1.ib (by have h := HL.1; rw [List.length_append, Pu.aI] at h; rw [List.length_nil]; omega) HF.1.size).mono ?_); rintro e w3 ⟨rfl, m1, m2, m3⟩; refine ⟨_, rfl, ?_⟩; have n0_ := af.mk (FI.step HF.1 m1 m2 m3); clear HF q0 m1 m2 m3; have HF := n0_; clear n0_; have q1 : w3.cell? ⟨g1, 1, none⟩ = some (.slice A1 l1.length c1) := (ax HF.1.k1 1).trans rfl))
  go_loopg [14] l1.length (fun kq v14 w' => ∃ x : Int, v14 = .int .i64 x ∧ af (0 ≤ x) ∧ af (x + kq = l1.length) ∧ ∃ s, af (FI w g1 g3 #[.string a0, .slice A1 l1.length c1, .bool b2, .slice A3 n3 c3, .int .i64 a4] s w') ∧ af (s ++ dS (prv l1 x) (l1.drop x.toNat) = lst a0 ++ dS none l1))
  case atStart => exact ⟨0, rfl, ⟨Int.le_refl 0⟩, ⟨by omega⟩, _, HF, ⟨rfl⟩⟩
  case round =>
    clear HF q1
    obtain ⟨x, rfl, X0, XK, s, HF, HS⟩ := hrel
    by_cases c13 : x < (l1.length : Int)
    · have c13b : decide (x < (l1.length : Int)) = true := decide_eq_true c13
      obtain ⟨k1, rfl⟩ : ∃ k', gk = k' + 1 := ⟨gk - 1, by have := XK.1; omega⟩
      have hat := atoms_at l1 x X0.1 c13
      have hw2 : wrap64 (x + 1) = x + 1 := kT (by have := X0.1; omega) (by have := HN.1; omega)
      have HT : af (dN.f k (ag l1 x).f0 (ag l1 x).f1 (ag l1 x).f2 (ag l1 x).f3 = some (str (sp (ag l1 x)), 0)) := ⟨HO.1 _ (rd_mem l1 x X0.1 c13)⟩
      have ln1 : s.length + 1 ≤ 140737488355328 := by
        have h := congrArg List.length HS.1; have h2 := HL.1
        rw [List.length_append] at h
        omega
      obtain ⟨ad, eA, hx0, hx1, hx2, hx3⟩ := eZ HR.1 x X0.1 c13
      cases eA
      replace hx0 := (HF.1.hB.cell (World.block_lt_of_cell? w _ hx0)).trans hx0
      replace hx1 := (HF.1.hB.cell (World.block_lt_of_cell? w _ hx1)).trans hx1
      replace hx2 := (HF.1.hB.cell (World.block_lt_of_cell? w _ hx2)).trans hx2
      replace hx3 := (HF.1.hB.cell (World.block_lt_of_cell? w _ hx3)).trans hx3
      have p1 : (0 ≤ x) = True := eq_true X0.1
      have p2 : (x < (l1.length : Int)) = True := eq_true c13
      by_cases hx : x = 0
      · have hglue : glue (prv l1 x) (ag l1 x) = false := by rw [hx]; rfl
        have cg : decide (x > 0) = false := by rw [hx]; rfl
        have cg' : decide (0 < x) = false := by rw [hx]; rfl
        clear hx c13
        have LN1 := af.mk (ln1 : s.length + 1 ≤ 140737488355328)
        have LN2 : af (((s ++ [32])).length + (str (sp (ag l1 x))).size ≤ 140737488355328) := ⟨by rw [Pu.dY]; have h := congrArg List.length HS.1; have h2 := HL.1; rw [hat, hglue] at h; simp at h h2 ⊢; omega⟩
        have HSN : af (((s ++ [32]) ++ (str (sp (ag l1 x))).data.toList) ++ dS (prv l1 (x + 1)) (l1.drop (x + 1).toNat) = lst a0 ++ dS none l1) := ⟨by have h := HS.1; rw [hat, hglue] at h; rw [← h]; simp [str]⟩
        clear hat hglue ln1
        go_wp2_with (first
          | ((with_reducible refine aA (N := 5) rfl ?_); (try (refine bE (by rfl) ?_; dsimp only)); refine eY ?hg (N := 5) ?hd (cs := #[.int .i64 0, .string (⟨#[]⟩ : ByteArray), .int .i64 0, .int .i64 0]) (t := 50) ?hr ?_; (case hd => rfl); (case hg => rfl); (case hr => first | (go_simp; done) | (go_simp; rfl)); intro g5 hg w5 hbox hb; have HB5 := af.mk hb; have GE5 := af.mk (Nat.le_of_eq hg.symm); have NE5 := af.mk ((by rw [hg]; exact Nat.ne_of_gt (IsB.lt HF.1.ib)) : g5 ≠ g3); have BK5 := af.mk hbox; have hcz0 : w5.cell? ⟨g5, 0, none⟩ = some (.int .i64 0) := (ax hbox 0).trans rfl; have hfz0 := aC hbox 0; have hcz1 : w5.cell? ⟨g5, 1, none⟩ = some (.string (⟨#[]⟩ : ByteArray)) := (ax hbox 1).trans rfl; have hfz1 := aC hbox 1; have hcz2 : w5.cell? ⟨g5, 2, none⟩ = some (.int .i64 0) := (ax hbox 2).trans rfl; have hfz2 := aC hbox 2; have hcz3 : w5.cell? ⟨g5, 3, none⟩ = some (.int .i64 0) := (ax hbox 3).trans rfl; have hfz3 := aC hbox 3; clear hbox hb hg)
          | ((with_reducible refine fD (t := 50) (p := 5) rfl ?_); refine gW (t := 50) (p := 5) (v := ?vo6) (w1 := ((((w5.setCell ⟨g5, 0, none⟩ (.int .i64 (ag l1 x).f0)).setCell ⟨g5, 1, none⟩ (.string (ag l1 x).f1)).setCell ⟨g5, 2, none⟩ (.int .i64 (ag l1 x).f2)).setCell ⟨g5, 3, none⟩ (.int .i64 (ag l1 x).f3))) ?hg ?ho ?hn ?hr ?_; (case ho => rfl); (case hg => rfl); (case hn => rfl); (case hr => first | (go_simp; done) | (go_simp; rfl)); intro w6 hw; have n0_ := af.mk (FI.below HF.1 (w2 := w6) (by rw [hw]; exact bK (bK (bK (bK HB5.1 GE5.1) GE5.1) GE5.1) GE5.1)); have n1_ : af (w6.heap[g5]? = some (.cells #[.int .i64 (ag l1 x).f0, .string (ag l1 x).f1, .int .i64 (ag l1 x).f2, .int .i64 (ag l1 x).f3] 50 (0, 0))) := ⟨by rw [hw]; refine aU (cs := #[.int .i64 (ag l1 x).f0, .string (ag l1 x).f1, .int .i64 (ag l1 x).f2, .int .i64 0]) ?_ 3 _ rfl; refine aU (cs := #[.int .i64 (ag l1 x).f0, .string (ag l1 x).f1, .int .i64 0, .int .i64 0]) ?_ 2 _ rfl; refine aU (cs := #[.int .i64 (ag l1 x).f0, .string (⟨#[]⟩ : ByteArray), .int .i64 0, .int .i64 0]) ?_ 1 _ rfl; refine aU (cs := #[.int .i64 0, .string (⟨#[]⟩ : ByteArray), .int .i64 0, .int .i64 0]) ?_ 0 _ rfl; exact BK5.1⟩; clear HF BK5 HB5 hw; (try clear hcz0 hcz1 hcz2 hcz3 hfz0 hfz1 hfz2 hfz3); (try clear hx0 hx1 hx2 hx3); have HF := n0_; have BK5 := n1_; clear n0_ n1_; have hl0 : w6.cell? ⟨g5, 0, none⟩ = some (.int .i64 (ag l1 x).f0) := (ax BK5.1 0).trans rfl; have hl1 : w6.cell? ⟨g5, 1, none⟩ = some (.string (ag l1 x).f1) := (ax BK5.1 1).trans rfl; have hl2 : w6.cell? ⟨g5, 2, none⟩ = some (.int .i64 (ag l1 x).f2) := (ax BK5.1 2).trans rfl; have hl3 : w6.cell? ⟨g5, 3, none⟩ = some (.int .i64 (ag l1 x).f3) := (ax BK5.1 3).trans rfl)
          | ((with_reducible refine aj (f := 43) rfl ?_); (with_reducible refine aA (N := 35) rfl ?_); (try (refine bE (by rfl) ?_; dsimp only)); refine dW (some 35) rfl rfl Tryz.func43 (by kernel_rfl) rfl #[.pointer (some ⟨g3, 0, none⟩), .int .u8 32] rfl (by (try simp only [List.map_toArray, List.map_cons, List.map_nil]); first | done | rfl) ?_; (with_reducible refine (kM w.heap.size g3 s _ HF.1.ib LN1.1 HF.1.size).mono ?_); rintro e w9 ⟨rfl, m1, m2, m3⟩; refine ⟨_, rfl, ?_⟩; have n0_ := af.mk (FI.step HF.1 m1 m2 m3); have n1_ := af.mk (m3 _ _ _ _ (by decide) NE5.1 BK5.1); clear HF BK5; (try clear hl0 hl1 hl2 hl3); (try clear hy0 hy1 hy2 hy3 q1_); have HF := n0_; have BK5 := n1_; clear n0_ n1_ m1 m2 m3; have hl0 : w9.cell? ⟨g5, 0, none⟩ = some (.int .i64 (ag l1 x).f0) := (ax BK5.1 0).trans rfl; have hl1 : w9.cell? ⟨g5, 1, none⟩ = some (.string (ag l1 x).f1) := (ax BK5.1 1).trans rfl; have hl2 : w9.cell? ⟨g5, 2, none⟩ = some (.int .i64 (ag l1 x).f2) := (ax BK5.1 2).trans rfl; have hl3 : w9.cell? ⟨g5, 3, none⟩ = some (.int .i64 (ag l1 x).f3) := (ax BK5.1 3).trans rfl)
          | ((with_reducible refine aj (f := 44) rfl ?_); (with_reducible refine aA (N := 38) rfl ?_); (try (refine bE (by rfl) ?_; dsimp only)); refine dW (some 38) rfl rfl Tryz.func44 (by kernel_rfl) rfl #[.agg #[.int .i64 (ag l1 x).f0, .string (ag l1 x).f1, .int .i64 (ag l1 x).f2, .int .i64 (ag l1 x).f3]] rfl (by (try simp only [List.map_toArray, List.map_cons, List.map_nil]); first | done | rfl) ?_; (with_reducible refine (dN.calls k _ _ _ _ (str (sp (ag l1 x))) 0 _ (HG.1.below HF.1.hB) HT.1).mono ?_); rintro e w10 ⟨rfl, hb⟩; refine ⟨_, rfl, ?_⟩; have n0_ := af.mk (FI.below HF.1 hb); have n1_ := af.mk (aZ BK5.1 hb); clear HF BK5; (try clear hl0 hl1 hl2 hl3); (try clear hy0 hy1 hy2 hy3 q1_); have HF := n0_; have BK5 := n1_; clear n0_ n1_ hb)
          | ((with_reducible refine aj (f := 41) rfl ?_); (with_reducible refine aA (N := 42) rfl ?_); (try (refine bE (by rfl) ?_; dsimp only)); refine dW (some 42) rfl rfl Tryz.func41 (by kernel_rfl) rfl #[.pointer (some ⟨g3, 0, none⟩), .string (str (sp (ag l1 x)))] rfl (by (try simp only [List.map_toArray, List.map_cons, List.map_nil]); first | done | rfl) ?_; (with_reducible refine (gI w.heap.size g3 (s ++ [32]) (str (sp (ag l1 x))) _ HF.1.ib LN2.1 HF.1.size).mono ?_); rintro e w11 ⟨rfl, m1, m2, m3⟩; refine ⟨_, rfl, ?_⟩; have n0_ := af.mk (FI.step HF.1 m1 m2 m3); have n1_ := af.mk (m3 _ _ _ _ (by decide) NE5.1 BK5.1); clear HF BK5; (try clear hl0 hl1 hl2 hl3); (try clear hy0 hy1 hy2 hy3 q1_); have HF := n0_; have BK5 := n1_; clear n0_ n1_ m1 m2 m3))
        go_roundg k1
        case measure => omega
        case rel => exact ⟨x + 1, (by first | rfl | (simp; done) | (simp [*]; done)), ⟨by have := X0.1; omega⟩, ⟨by have := XK.1; omega⟩, _, HF, HSN⟩
      · have cg : decide (x > 0) = true := decide_eq_true (by have := X0.1; omega)
        have cg' : decide (0 < x) = true := decide_eq_true (by have := X0.1; omega)
        have hprv : prv l1 x = some (ag l1 (x - 1)) := if_neg hx
        have hw1 : wrap64 (x - 1) = x - 1 := kT (by have := X0.1; omega) (by have := HN.1; omega)
        obtain ⟨ad2, eA, hy0, hy1, hy2, hy3⟩ := eZ HR.1 (x - 1) (by have := X0.1; omega) (by omega)
        cases eA
        have ex : (x - 1).toNat = x.toNat - 1 := by omega
        rw [ex] at hy0 hy1 hy2 hy3
        clear ex
        have HY0 := af.mk hy0
        have HY1 := af.mk hy1
        have HY2 := af.mk hy2
        have HY3 := af.mk hy3
        have p5 : (1 ≤ x) = True := eq_true (by have := X0.1; omega)
        have p6 : (x < 1) = False := eq_false (by have := X0.1; omega)
        have p3 : (0 ≤ x - 1) = True := eq_true (by have := X0.1; omega)
        have p4 : (x - 1 < (l1.length : Int)) = True := eq_true (by omega)
        clear hx c13 hy0 hy1 hy2 hy3
        by_cases h1 : isS (ag l1 (x - 1)) 40 = true
        · have hglue : glue (prv l1 x) (ag l1 x) = true := by rw [hprv]; simp [glue, h1]
          have S1 := af.mk ((sign_one (ag l1 (x - 1))).trans (congrArg some h1))
          clear h1 hprv
          have LN1 := af.mk (ln1 : s.length + 1 ≤ 140737488355328)
          have LN2 : af ((s).length + (str (sp (ag l1 x))).size ≤ 140737488355328) := ⟨by rw [Pu.dY]; have h := congrArg List.length HS.1; have h2 := HL.1; rw [hat, hglue] at h; simp at h h2 ⊢; omega⟩
          have HSN : af ((s ++ (str (sp (ag l1 x))).data.toList) ++ dS (prv l1 (x + 1)) (l1.drop (x + 1).toNat) = lst a0 ++ dS none l1) := ⟨by have h := HS.1; rw [hat, hglue] at h; rw [← h]; simp [str]⟩
          clear hat hglue ln1
          go_wp2_with (first
            | ((with_reducible refine aA (N := 5) rfl ?_); (try (refine bE (by rfl) ?_; dsimp only)); refine eY ?hg (N := 5) ?hd (cs := #[.int .i64 0, .string (⟨#[]⟩ : ByteArray), .int .i64 0, .int .i64 0]) (t := 50) ?hr ?_; (case hd => rfl); (case hg => rfl); (case hr => first | (go_simp; done) | (go_simp; rfl)); intro g5 hg w5 hbox hb; have HB5 := af.mk hb; have GE5 := af.mk (Nat.le_of_eq hg.symm); have NE5 := af.mk ((by rw [hg]; exact Nat.ne_of_gt (IsB.lt HF.1.ib)) : g5 ≠ g3); have BK5 := af.mk hbox; have hcz0 : w5.cell? ⟨g5, 0, none⟩ = some (.int .i64 0) := (ax hbox 0).trans rfl; have hfz0 := aC hbox 0; have hcz1 : w5.cell? ⟨g5, 1, none⟩ = some (.string (⟨#[]⟩ : ByteArray)) := (ax hbox 1).trans rfl; have hfz1 := aC hbox 1; have hcz2 : w5.cell? ⟨g5, 2, none⟩ = some (.int .i64 0) := (ax hbox 2).trans rfl; have hfz2 := aC hbox 2; have hcz3 : w5.cell? ⟨g5, 3, none⟩ = some (.int .i64 0) := (ax hbox 3).trans rfl; have hfz3 := aC hbox 3; clear hbox hb hg)
            | ((with_reducible refine fD (t := 50) (p := 5) rfl ?_); refine gW (t := 50) (p := 5) (v := ?vo6) (w1 := ((((w5.setCell ⟨g5, 0, none⟩ (.int .i64 (ag l1 x).f0)).setCell ⟨g5, 1, none⟩ (.string (ag l1 x).f1)).setCell ⟨g5, 2, none⟩ (.int .i64 (ag l1 x).f2)).setCell ⟨g5, 3, none⟩ (.int .i64 (ag l1 x).f3))) ?hg ?ho ?hn ?hr ?_; (case ho => rfl); (case hg => rfl); (case hn => rfl); (case hr => first | (go_simp; done) | (go_simp; rfl)); intro w6 hw; have n0_ := af.mk (FI.below HF.1 (w2 := w6) (by rw [hw]; exact bK (bK (bK (bK HB5.1 GE5.1) GE5.1) GE5.1) GE5.1)); have n1_ : af (w6.heap[g5]? = some (.cells #[.int .i64 (ag l1 x).f0, .string (ag l1 x).f1, .int .i64 (ag l1 x).f2, .int .i64 (ag l1 x).f3] 50 (0, 0))) := ⟨by rw [hw]; refine aU (cs := #[.int .i64 (ag l1 x).f0, .string (ag l1 x).f1, .int .i64 (ag l1 x).f2, .int .i64 0]) ?_ 3 _ rfl; refine aU (cs := #[.int .i64 (ag l1 x).f0, .string (ag l1 x).f1, .int .i64 0, .int .i64 0]) ?_ 2 _ rfl; refine aU (cs := #[.int .i64 (ag l1 x).f0, .string (⟨#[]⟩ : ByteArray), .int .i64 0, .int .i64 0]) ?_ 1 _ rfl; refine aU (cs := #[.int .i64 0, .string (⟨#[]⟩ : ByteArray), .int .i64 0, .int .i64 0]) ?_ 0 _ rfl; exact BK5.1⟩; clear HF BK5 HB5 hw; (try clear hcz0 hcz1 hcz2 hcz3 hfz0 hfz1 hfz2 hfz3); (try clear hx0 hx1 hx2 hx3); have HF := n0_; have BK5 := n1_; clear n0_ n1_; have hl0 : w6.cell? ⟨g5, 0, none⟩ = some (.int .i64 (ag l1 x).f0) := (ax BK5.1 0).trans rfl; have hl1 : w6.cell? ⟨g5, 1, none⟩ = some (.string (ag l1 x).f1) := (ax BK5.1 1).trans rfl; have hl2 : w6.cell? ⟨g5, 2, none⟩ = some (.int .i64 (ag l1 x).f2) := (ax BK5.1 2).trans rfl; have hl3 : w6.cell? ⟨g5, 3, none⟩ = some (.int .i64 (ag l1 x).f3) := (ax BK5.1 3).trans rfl; have q1_ : w6.cell? ⟨g1, 1, none⟩ = some (.slice (some ad) l1.length c1) := (ax HF.1.k1 1).trans rfl; have hy0 := (HF.1.hB.cell (World.block_lt_of_cell? w _ HY0.1)).trans HY0.1; have hy1 := (HF.1.hB.cell (World.block_lt_of_cell? w _ HY1.1)).trans HY1.1; have hy2 := (HF.1.hB.cell (World.block_lt_of_cell? w _ HY2.1)).trans HY2.1; have hy3 := (HF.1.hB.cell (World.block_lt_of_cell? w _ HY3.1)).trans HY3.1)
            | ((with_reducible refine aj (f := 42) rfl ?_); (with_reducible refine aA (N := 28) rfl ?_); (try (refine bE (by rfl) ?_; dsimp only)); refine dW (some 28) rfl rfl Tryz.func42 (by kernel_rfl) rfl #[.agg #[.int .i64 (ag l1 (x - 1)).f0, .string (ag l1 (x - 1)).f1, .int .i64 (ag l1 (x - 1)).f2, .int .i64 (ag l1 (x - 1)).f3], .string (⟨#[40]⟩ : ByteArray)] rfl (by (try simp only [List.map_toArray, List.map_cons, List.map_nil]); first | done | rfl) ?_; (with_reducible refine (ed.calls _ _ _ _ _ true _ S1.1).mono ?_); rintro e w7 ⟨rfl, hb⟩; refine ⟨_, rfl, ?_⟩; have n0_ := af.mk (FI.below HF.1 hb); have n1_ := af.mk (aZ BK5.1 hb); clear HF BK5; (try clear hl0 hl1 hl2 hl3); (try clear hy0 hy1 hy2 hy3 q1_); have HF := n0_; have BK5 := n1_; clear n0_ n1_ hb; have hl0 : w7.cell? ⟨g5, 0, none⟩ = some (.int .i64 (ag l1 x).f0) := (ax BK5.1 0).trans rfl; have hl1 : w7.cell? ⟨g5, 1, none⟩ = some (.string (ag l1 x).f1) := (ax BK5.1 1).trans rfl; have hl2 : w7.cell? ⟨g5, 2, none⟩ = some (.int .i64 (ag l1 x).f2) := (ax BK5.1 2).trans rfl; have hl3 : w7.cell? ⟨g5, 3, none⟩ = some (.int .i64 (ag l1 x).f3) := (ax BK5.1 3).trans rfl)
            | ((with_reducible refine aj (f := 44) rfl ?_); (with_reducible refine aA (N := 38) rfl ?_); (try (refine bE (by rfl) ?_; dsimp only)); refine dW (some 38) rfl rfl Tryz.func44 (by kernel_rfl) rfl #[.agg #[.int .i64 (ag l1 x).f0, .string (ag l1 x).f1, .int .i64 (ag l1 x).f2, .int .i64 (ag l1 x).f3]] rfl (by (try simp only [List.map_toArray, List.map_cons, List.map_nil]); first | done | rfl) ?_; (with_reducible refine (dN.calls k _ _ _ _ (str (sp (ag l1 x))) 0 _ (HG.1.below HF.1.hB) HT.1).mono ?_); rintro e w10 ⟨rfl, hb⟩; refine ⟨_, rfl, ?_⟩; have n0_ := af.mk (FI.below HF.1 hb); have n1_ := af.mk (aZ BK5.1 hb); clear HF BK5; (try clear hl0 hl1 hl2 hl3); (try clear hy0 hy1 hy2 hy3 q1_); have HF := n0_; have BK5 := n1_; clear n0_ n1_ hb)
            | ((with_reducible refine aj (f := 41) rfl ?_); (with_reducible refine aA (N := 42) rfl ?_); (try (refine bE (by rfl) ?_; dsimp only)); refine dW (some 42) rfl rfl Tryz.func41 (by kernel_rfl) rfl #[.pointer (some ⟨g3, 0, none⟩), .string (str (sp (ag l1 x)))] rfl (by (try simp only [List.map_toArray, List.map_cons, List.map_nil]); first | done | rfl) ?_; (with_reducible refine (gI w.heap.size g3 s (str (sp (ag l1 x))) _ HF.1.ib LN2.1 HF.1.size).mono ?_); rintro e w11 ⟨rfl, m1, m2, m3⟩; refine ⟨_, rfl, ?_⟩; have n0_ := af.mk (FI.step HF.1 m1 m2 m3); have n1_ := af.mk (m3 _ _ _ _ (by decide) NE5.1 BK5.1); clear HF BK5; (try clear hl0 hl1 hl2 hl3); (try clear hy0 hy1 hy2 hy3 q1_); have HF := n0_; have BK5 := n1_; clear n0_ n1_ m1 m2 m3))
          go_roundg k1
          case measure => omega
          case rel => exact ⟨x + 1, (by first | rfl | (simp; done) | (simp [*]; done)), ⟨by have := X0.1; omega⟩, ⟨by have := XK.1; omega⟩, _, HF, HSN⟩
        · have S1 := af.mk ((sign_one (ag l1 (x - 1))).trans (congrArg some (Bool.eq_false_iff.2 h1)))
          by_cases h2 : (isS (ag l1 x) 41 || isS (ag l1 x) 44) = true
          · have hglue : glue (prv l1 x) (ag l1 x) = true := by rw [hprv]; simp [glue, h2]
            have S2 := af.mk ((sign_two (ag l1 x)).trans (congrArg some h2))
            clear h1 h2 hprv
            have LN1 := af.mk (ln1 : s.length + 1 ≤ 140737488355328)
            have LN2 : af ((s).length + (str (sp (ag l1 x))).size ≤ 140737488355328) := ⟨by rw [Pu.dY]; have h := congrArg List.length HS.1; have h2 := HL.1; rw [hat, hglue] at h; simp at h h2 ⊢; omega⟩
            have HSN : af ((s ++ (str (sp (ag l1 x))).data.toList) ++ dS (prv l1 (x + 1)) (l1.drop (x + 1).toNat) = lst a0 ++ dS none l1) := ⟨by have h := HS.1; rw [hat, hglue] at h; rw [← h]; simp [str]⟩
            clear hat hglue ln1
            go_wp2_with (first
              | ((with_reducible refine aA (N := 5) rfl ?_); (try (refine bE (by rfl) ?_; dsimp only)); refine eY ?hg (N := 5) ?hd (cs := #[.int .i64 0, .string (⟨#[]⟩ : ByteArray), .int .i64 0, .int .i64 0]) (t := 50) ?hr ?_; (case hd => rfl); (case hg => rfl); (case hr => first | (go_simp; done) | (go_simp; rfl)); intro g5 hg w5 hbox hb; have HB5 := af.mk hb; have GE5 := af.mk (Nat.le_of_eq hg.symm); have NE5 := af.mk ((by rw [hg]; exact Nat.ne_of_gt (IsB.lt HF.1.ib)) : g5 ≠ g3); have BK5 := af.mk hbox; have hcz0 : w5.cell? ⟨g5, 0, none⟩ = some (.int .i64 0) := (ax hbox 0).trans rfl; have hfz0 := aC hbox 0; have hcz1 : w5.cell? ⟨g5, 1, none⟩ = some (.string (⟨#[]⟩ : ByteArray)) := (ax hbox 1).trans rfl; have hfz1 := aC hbox 1; have hcz2 : w5.cell? ⟨g5, 2, none⟩ = some (.int .i64 0) := (ax hbox 2).trans rfl; have hfz2 := aC hbox 2; have hcz3 : w5.cell? ⟨g5, 3, none⟩ = some (.int .i64 0) := (ax hbox 3).trans rfl; have hfz3 := aC hbox 3; clear hbox hb hg)
              | ((with_reducible refine fD (t := 50) (p := 5) rfl ?_); refine gW (t := 50) (p := 5) (v := ?vo6) (w1 := ((((w5.setCell ⟨g5, 0, none⟩ (.int .i64 (ag l1 x).f0)).setCell ⟨g5, 1, none⟩ (.string (ag l1 x).f1)).setCell ⟨g5, 2, none⟩ (.int .i64 (ag l1 x).f2)).setCell ⟨g5, 3, none⟩ (.int .i64 (ag l1 x).f3))) ?hg ?ho ?hn ?hr ?_; (case ho => rfl); (case hg => rfl); (case hn => rfl); (case hr => first | (go_simp; done) | (go_simp; rfl)); intro w6 hw; have n0_ := af.mk (FI.below HF.1 (w2 := w6) (by rw [hw]; exact bK (bK (bK (bK HB5.1 GE5.1) GE5.1) GE5.1) GE5.1)); have n1_ : af (w6.heap[g5]? = some (.cells #[.int .i64 (ag l1 x).f0, .string (ag l1 x).f1, .int .i64 (ag l1 x).f2, .int .i64 (ag l1 x).f3] 50 (0, 0))) := ⟨by rw [hw]; refine aU (cs := #[.int .i64 (ag l1 x).f0, .string (ag l1 x).f1, .int .i64 (ag l1 x).f2, .int .i64 0]) ?_ 3 _ rfl; refine aU (cs := #[.int .i64 (ag l1 x).f0, .string (ag l1 x).f1, .int .i64 0, .int .i64 0]) ?_ 2 _ rfl; refine aU (cs := #[.int .i64 (ag l1 x).f0, .string (⟨#[]⟩ : ByteArray), .int .i64 0, .int .i64 0]) ?_ 1 _ rfl; refine aU (cs := #[.int .i64 0, .string (⟨#[]⟩ : ByteArray), .int .i64 0, .int .i64 0]) ?_ 0 _ rfl; exact BK5.1⟩; clear HF BK5 HB5 hw; (try clear hcz0 hcz1 hcz2 hcz3 hfz0 hfz1 hfz2 hfz3); (try clear hx0 hx1 hx2 hx3); have HF := n0_; have BK5 := n1_; clear n0_ n1_; have hl0 : w6.cell? ⟨g5, 0, none⟩ = some (.int .i64 (ag l1 x).f0) := (ax BK5.1 0).trans rfl; have hl1 : w6.cell? ⟨g5, 1, none⟩ = some (.string (ag l1 x).f1) := (ax BK5.1 1).trans rfl; have hl2 : w6.cell? ⟨g5, 2, none⟩ = some (.int .i64 (ag l1 x).f2) := (ax BK5.1 2).trans rfl; have hl3 : w6.cell? ⟨g5, 3, none⟩ = some (.int .i64 (ag l1 x).f3) := (ax BK5.1 3).trans rfl; have q1_ : w6.cell? ⟨g1, 1, none⟩ = some (.slice (some ad) l1.length c1) := (ax HF.1.k1 1).trans rfl; have hy0 := (HF.1.hB.cell (World.block_lt_of_cell? w _ HY0.1)).trans HY0.1; have hy1 := (HF.1.hB.cell (World.block_lt_of_cell? w _ HY1.1)).trans HY1.1; have hy2 := (HF.1.hB.cell (World.block_lt_of_cell? w _ HY2.1)).trans HY2.1; have hy3 := (HF.1.hB.cell (World.block_lt_of_cell? w _ HY3.1)).trans HY3.1)
              | ((with_reducible refine aj (f := 42) rfl ?_); (with_reducible refine aA (N := 28) rfl ?_); (try (refine bE (by rfl) ?_; dsimp only)); refine dW (some 28) rfl rfl Tryz.func42 (by kernel_rfl) rfl #[.agg #[.int .i64 (ag l1 (x - 1)).f0, .string (ag l1 (x - 1)).f1, .int .i64 (ag l1 (x - 1)).f2, .int .i64 (ag l1 (x - 1)).f3], .string (⟨#[40]⟩ : ByteArray)] rfl (by (try simp only [List.map_toArray, List.map_cons, List.map_nil]); first | done | rfl) ?_; (with_reducible refine (ed.calls _ _ _ _ _ false _ S1.1).mono ?_); rintro e w7 ⟨rfl, hb⟩; refine ⟨_, rfl, ?_⟩; have n0_ := af.mk (FI.below HF.1 hb); have n1_ := af.mk (aZ BK5.1 hb); clear HF BK5; (try clear hl0 hl1 hl2 hl3); (try clear hy0 hy1 hy2 hy3 q1_); have HF := n0_; have BK5 := n1_; clear n0_ n1_ hb; have hl0 : w7.cell? ⟨g5, 0, none⟩ = some (.int .i64 (ag l1 x).f0) := (ax BK5.1 0).trans rfl; have hl1 : w7.cell? ⟨g5, 1, none⟩ = some (.string (ag l1 x).f1) := (ax BK5.1 1).trans rfl; have hl2 : w7.cell? ⟨g5, 2, none⟩ = some (.int .i64 (ag l1 x).f2) := (ax BK5.1 2).trans rfl; have hl3 : w7.cell? ⟨g5, 3, none⟩ = some (.int .i64 (ag l1 x).f3) := (ax BK5.1 3).trans rfl)
              | ((with_reducible refine aj (f := 42) rfl ?_); (with_reducible refine aA (N := 31) rfl ?_); (try (refine bE (by rfl) ?_; dsimp only)); refine dW (some 31) rfl rfl Tryz.func42 (by kernel_rfl) rfl #[.agg #[.int .i64 (ag l1 x).f0, .string (ag l1 x).f1, .int .i64 (ag l1 x).f2, .int .i64 (ag l1 x).f3], .string (⟨#[41, 44]⟩ : ByteArray)] rfl (by (try simp only [List.map_toArray, List.map_cons, List.map_nil]); first | done | rfl) ?_; (with_reducible refine (ed.calls _ _ _ _ _ true _ S2.1).mono ?_); rintro e w8 ⟨rfl, hb⟩; refine ⟨_, rfl, ?_⟩; have n0_ := af.mk (FI.below HF.1 hb); have n1_ := af.mk (aZ BK5.1 hb); clear HF BK5; (try clear hl0 hl1 hl2 hl3); (try clear hy0 hy1 hy2 hy3 q1_); have HF := n0_; have BK5 := n1_; clear n0_ n1_ hb; have hl0 : w8.cell? ⟨g5, 0, none⟩ = some (.int .i64 (ag l1 x).f0) := (ax BK5.1 0).trans rfl; have hl1 : w8.cell? ⟨g5, 1, none⟩ = some (.string (ag l1 x).f1) := (ax BK5.1 1).trans rfl; have hl2 : w8.cell? ⟨g5, 2, none⟩ = some (.int .i64 (ag l1 x).f2) := (ax BK5.1 2).trans rfl; have hl3 : w8.cell? ⟨g5, 3, none⟩ = some (.int .i64 (ag l1 x).f3) := (ax BK5.1 3).trans rfl)
              | ((with_reducible refine aj (f := 44) rfl ?_); (with_reducible refine aA (N := 38) rfl ?_); (try (refine bE (by rfl) ?_; dsimp only)); refine dW (some 38) rfl rfl Tryz.func44 (by kernel_rfl) rfl #[.agg #[.int .i64 (ag l1 x).f0, .string (ag l1 x).f1, .int .i64 (ag l1 x).f2, .int .i64 (ag l1 x).f3]] rfl (by (try simp only [List.map_toArray, List.map_cons, List.map_nil]); first | done | rfl) ?_; (with_reducible refine (dN.calls k _ _ _ _ (str (sp (ag l1 x))) 0 _ (HG.1.below HF.1.hB) HT.1).mono ?_); rintro e w10 ⟨rfl, hb⟩; refine ⟨_, rfl, ?_⟩; have n0_ := af.mk (FI.below HF.1 hb); have n1_ := af.mk (aZ BK5.1 hb); clear HF BK5; (try clear hl0 hl1 hl2 hl3); (try clear hy0 hy1 hy2 hy3 q1_); have HF := n0_; have BK5 := n1_; clear n0_ n1_ hb)
              | ((with_reducible refine aj (f := 41) rfl ?_); (with_reducible refine aA (N := 42) rfl ?_); (try (refine bE (by rfl) ?_; dsimp only)); refine dW (some 42) rfl rfl Tryz.func41 (by kernel_rfl) rfl #[.pointer (some ⟨g3, 0, none⟩), .string (str (sp (ag l1 x)))] rfl (by (try simp only [List.map_toArray, List.map_cons, List.map_nil]); first | done | rfl) ?_; (with_reducible refine (gI w.heap.size g3 s (str (sp (ag l1 x))) _ HF.1.ib LN2.1 HF.1.size).mono ?_); rintro e w11 ⟨rfl, m1, m2, m3⟩; refine ⟨_, rfl, ?_⟩; have n0_ := af.mk (FI.step HF.1 m1 m2 m3); have n1_ := af.mk (m3 _ _ _ _ (by decide) NE5.1 BK5.1); clear HF BK5; (try clear hl0 hl1 hl2 hl3); (try clear hy0 hy1 hy2 hy3 q1_); have HF := n0_; have BK5 := n1_; clear n0_ n1_ m1 m2 m3))
            go_roundg k1
            case measure => omega
            case rel => exact ⟨x + 1, (by first | rfl | (simp; done) | (simp [*]; done)), ⟨by have := X0.1; omega⟩, ⟨by have := XK.1; omega⟩, _, HF, HSN⟩
          · have hglue : glue (prv l1 x) (ag l1 x) = false := by rw [hprv]; show (isS _ 40 || (isS _ 41 || isS _ 44)) = false; rw [Bool.eq_false_iff.2 h1, Bool.eq_false_iff.2 h2]; rfl
            have S2 := af.mk ((sign_two (ag l1 x)).trans (congrArg some (Bool.eq_false_iff.2 h2)))
            clear h1 h2 hprv
            have LN1 := af.mk (ln1 : s.length + 1 ≤ 140737488355328)
            have LN2 : af (((s ++ [32])).length + (str (sp (ag l1 x))).size ≤ 140737488355328) := ⟨by rw [Pu.dY]; have h := congrArg List.length HS.1; have h2 := HL.1; rw [hat, hglue] at h; simp at h h2 ⊢; omega⟩
            have HSN : af (((s ++ [32]) ++ (str (sp (ag l1 x))).data.toList) ++ dS (prv l1 (x + 1)) (l1.drop (x + 1).toNat) = lst a0 ++ dS none l1) := ⟨by have h := HS.1; rw [hat, hglue] at h; rw [← h]; simp [str]⟩
            clear hat hglue ln1
            go_wp2_with (first
              | ((with_reducible refine aA (N := 5) rfl ?_); (try (refine bE (by rfl) ?_; dsimp only)); refine eY ?hg (N := 5) ?hd (cs := #[.int .i64 0, .string (⟨#[]⟩ : ByteArray), .int .i64 0, .int .i64 0]) (t := 50) ?hr ?_; (case hd => rfl); (case hg => rfl); (case hr => first | (go_simp; done) | (go_simp; rfl)); intro g5 hg w5 hbox hb; have HB5 := af.mk hb; have GE5 := af.mk (Nat.le_of_eq hg.symm); have NE5 := af.mk ((by rw [hg]; exact Nat.ne_of_gt (IsB.lt HF.1.ib)) : g5 ≠ g3); have BK5 := af.mk hbox; have hcz0 : w5.cell? ⟨g5, 0, none⟩ = some (.int .i64 0) := (ax hbox 0).trans rfl; have hfz0 := aC hbox 0; have hcz1 : w5.cell? ⟨g5, 1, none⟩ = some (.string (⟨#[]⟩ : ByteArray)) := (ax hbox 1).trans rfl; have hfz1 := aC hbox 1; have hcz2 : w5.cell? ⟨g5, 2, none⟩ = some (.int .i64 0) := (ax hbox 2).trans rfl; have hfz2 := aC hbox 2; have hcz3 : w5.cell? ⟨g5, 3, none⟩ = some (.int .i64 0) := (ax hbox 3).trans rfl; have hfz3 := aC hbox 3; clear hbox hb hg)
              | ((with_reducible refine fD (t := 50) (p := 5) rfl ?_); refine gW (t := 50) (p := 5) (v := ?vo6) (w1 := ((((w5.setCell ⟨g5, 0, none⟩ (.int .i64 (ag l1 x).f0)).setCell ⟨g5, 1, none⟩ (.string (ag l1 x).f1)).setCell ⟨g5, 2, none⟩ (.int .i64 (ag l1 x).f2)).setCell ⟨g5, 3, none⟩ (.int .i64 (ag l1 x).f3))) ?hg ?ho ?hn ?hr ?_; (case ho => rfl); (case hg => rfl); (case hn => rfl); (case hr => first | (go_simp; done) | (go_simp; rfl)); intro w6 hw; have n0_ := af.mk (FI.below HF.1 (w2 := w6) (by rw [hw]; exact bK (bK (bK (bK HB5.1 GE5.1) GE5.1) GE5.1) GE5.1)); have n1_ : af (w6.heap[g5]? = some (.cells #[.int .i64 (ag l1 x).f0, .string (ag l1 x).f1, .int .i64 (ag l1 x).f2, .int .i64 (ag l1 x).f3] 50 (0, 0))) := ⟨by rw [hw]; refine aU (cs := #[.int .i64 (ag l1 x).f0, .string (ag l1 x).f1, .int .i64 (ag l1 x).f2, .int .i64 0]) ?_ 3 _ rfl; refine aU (cs := #[.int .i64 (ag l1 x).f0, .string (ag l1 x).f1, .int .i64 0, .int .i64 0]) ?_ 2 _ rfl; refine aU (cs := #[.int .i64 (ag l1 x).f0, .string (⟨#[]⟩ : ByteArray), .int .i64 0, .int .i64 0]) ?_ 1 _ rfl; refine aU (cs := #[.int .i64 0, .string (⟨#[]⟩ : ByteArray), .int .i64 0, .int .i64 0]) ?_ 0 _ rfl; exact BK5.1⟩; clear HF BK5 HB5 hw; (try clear hcz0 hcz1 hcz2 hcz3 hfz0 hfz1 hfz2 hfz3); (try clear hx0 hx1 hx2 hx3); have HF := n0_; have BK5 := n1_; clear n0_ n1_; have hl0 : w6.cell? ⟨g5, 0, none⟩ = some (.int .i64 (ag l1 x).f0) := (ax BK5.1 0).trans rfl; have hl1 : w6.cell? ⟨g5, 1, none⟩ = some (.string (ag l1 x).f1) := (ax BK5.1 1).trans rfl; have hl2 : w6.cell? ⟨g5, 2, none⟩ = some (.int .i64 (ag l1 x).f2) := (ax BK5.1 2).trans rfl; have hl3 : w6.cell? ⟨g5, 3, none⟩ = some (.int .i64 (ag l1 x).f3) := (ax BK5.1 3).trans rfl; have q1_ : w6.cell? ⟨g1, 1, none⟩ = some (.slice (some ad) l1.length c1) := (ax HF.1.k1 1).trans rfl; have hy0 := (HF.1.hB.cell (World.block_lt_of_cell? w _ HY0.1)).trans HY0.1; have hy1 := (HF.1.hB.cell (World.block_lt_of_cell? w _ HY1.1)).trans HY1.1; have hy2 := (HF.1.hB.cell (World.block_lt_of_cell? w _ HY2.1)).trans HY2.1; have hy3 := (HF.1.hB.cell (World.block_lt_of_cell? w _ HY3.1)).trans HY3.1)
              | ((with_reducible refine aj (f := 42) rfl ?_); (with_reducible refine aA (N := 28) rfl ?_); (try (refine bE (by rfl) ?_; dsimp only)); refine dW (some 28) rfl rfl Tryz.func42 (by kernel_rfl) rfl #[.agg #[.int .i64 (ag l1 (x - 1)).f0, .string (ag l1 (x - 1)).f1, .int .i64 (ag l1 (x - 1)).f2, .int .i64 (ag l1 (x - 1)).f3], .string (⟨#[40]⟩ : ByteArray)] rfl (by (try simp only [List.map_toArray, List.map_cons, List.map_nil]); first | done | rfl) ?_; (with_reducible refine (ed.calls _ _ _ _ _ false _ S1.1).mono ?_); rintro e w7 ⟨rfl, hb⟩; refine ⟨_, rfl, ?_⟩; have n0_ := af.mk (FI.below HF.1 hb); have n1_ := af.mk (aZ BK5.1 hb); clear HF BK5; (try clear hl0 hl1 hl2 hl3); (try clear hy0 hy1 hy2 hy3 q1_); have HF := n0_; have BK5 := n1_; clear n0_ n1_ hb; have hl0 : w7.cell? ⟨g5, 0, none⟩ = some (.int .i64 (ag l1 x).f0) := (ax BK5.1 0).trans rfl; have hl1 : w7.cell? ⟨g5, 1, none⟩ = some (.string (ag l1 x).f1) := (ax BK5.1 1).trans rfl; have hl2 : w7.cell? ⟨g5, 2, none⟩ = some (.int .i64 (ag l1 x).f2) := (ax BK5.1 2).trans rfl; have hl3 : w7.cell? ⟨g5, 3, none⟩ = some (.int .i64 (ag l1 x).f3) := (ax BK5.1 3).trans rfl)
              | ((with_reducible refine aj (f := 42) rfl ?_); (with_reducible refine aA (N := 31) rfl ?_); (try (refine bE (by rfl) ?_; dsimp only)); refine dW (some 31) rfl rfl Tryz.func42 (by kernel_rfl) rfl #[.agg #[.int .i64 (ag l1 x).f0, .string (ag l1 x).f1, .int .i64 (ag l1 x).f2, .int .i64 (ag l1 x).f3], .string (⟨#[41, 44]⟩ : ByteArray)] rfl (by (try simp only [List.map_toArray, List.map_cons, List.map_nil]); first | done | rfl) ?_; (with_reducible refine (ed.calls _ _ _ _ _ false _ S2.1).mono ?_); rintro e w8 ⟨rfl, hb⟩; refine ⟨_, rfl, ?_⟩; have n0_ := af.mk (FI.below HF.1 hb); have n1_ := af.mk (aZ BK5.1 hb); clear HF BK5; (try clear hl0 hl1 hl2 hl3); (try clear hy0 hy1 hy2 hy3 q1_); have HF := n0_; have BK5 := n1_; clear n0_ n1_ hb; have hl0 : w8.cell? ⟨g5, 0, none⟩ = some (.int .i64 (ag l1 x).f0) := (ax BK5.1 0).trans rfl; have hl1 : w8.cell? ⟨g5, 1, none⟩ = some (.string (ag l1 x).f1) := (ax BK5.1 1).trans rfl; have hl2 : w8.cell? ⟨g5, 2, none⟩ = some (.int .i64 (ag l1 x).f2) := (ax BK5.1 2).trans rfl; have hl3 : w8.cell? ⟨g5, 3, none⟩ = some (.int .i64 (ag l1 x).f3) := (ax BK5.1 3).trans rfl)
              | ((with_reducible refine aj (f := 43) rfl ?_); (with_reducible refine aA (N := 35) rfl ?_); (try (refine bE (by rfl) ?_; dsimp only)); refine dW (some 35) rfl rfl Tryz.func43 (by kernel_rfl) rfl #[.pointer (some ⟨g3, 0, none⟩), .int .u8 32] rfl (by (try simp only [List.map_toArray, List.map_cons, List.map_nil]); first | done | rfl) ?_; (with_reducible refine (kM w.heap.size g3 s _ HF.1.ib LN1.1 HF.1.size).mono ?_); rintro e w9 ⟨rfl, m1, m2, m3⟩; refine ⟨_, rfl, ?_⟩; have n0_ := af.mk (FI.step HF.1 m1 m2 m3); have n1_ := af.mk (m3 _ _ _ _ (by decide) NE5.1 BK5.1); clear HF BK5; (try clear hl0 hl1 hl2 hl3); (try clear hy0 hy1 hy2 hy3 q1_); have HF := n0_; have BK5 := n1_; clear n0_ n1_ m1 m2 m3; have hl0 : w9.cell? ⟨g5, 0, none⟩ = some (.int .i64 (ag l1 x).f0) := (ax BK5.1 0).trans rfl; have hl1 : w9.cell? ⟨g5, 1, none⟩ = some (.string (ag l1 x).f1) := (ax BK5.1 1).trans rfl; have hl2 : w9.cell? ⟨g5, 2, none⟩ = some (.int .i64 (ag l1 x).f2) := (ax BK5.1 2).trans rfl; have hl3 : w9.cell? ⟨g5, 3, none⟩ = some (.int .i64 (ag l1 x).f3) := (ax BK5.1 3).trans rfl)
              | ((with_reducible refine aj (f := 44) rfl ?_); (with_reducible refine aA (N := 38) rfl ?_); (try (refine bE (by rfl) ?_; dsimp only)); refine dW (some 38) rfl rfl Tryz.func44 (by kernel_rfl) rfl #[.agg #[.int .i64 (ag l1 x).f0, .string (ag l1 x).f1, .int .i64 (ag l1 x).f2, .int .i64 (ag l1 x).f3]] rfl (by (try simp only [List.map_toArray, List.map_cons, List.map_nil]); first | done | rfl) ?_; (with_reducible refine (dN.calls k _ _ _ _ (str (sp (ag l1 x))) 0 _ (HG.1.below HF.1.hB) HT.1).mono ?_); rintro e w10 ⟨rfl, hb⟩; refine ⟨_, rfl, ?_⟩; have n0_ := af.mk (FI.below HF.1 hb); have n1_ := af.mk (aZ BK5.1 hb); clear HF BK5; (try clear hl0 hl1 hl2 hl3); (try clear hy0 hy1 hy2 hy3 q1_); have HF := n0_; have BK5 := n1_; clear n0_ n1_ hb)
              | ((with_reducible refine aj (f := 41) rfl ?_); (with_reducible refine aA (N := 42) rfl ?_); (try (refine bE (by rfl) ?_; dsimp only)); refine dW (some 42) rfl rfl Tryz.func41 (by kernel_rfl) rfl #[.pointer (some ⟨g3, 0, none⟩), .string (str (sp (ag l1 x)))] rfl (by (try simp only [List.map_toArray, List.map_cons, List.map_nil]); first | done | rfl) ?_; (with_reducible refine (gI w.heap.size g3 (s ++ [32]) (str (sp (ag l1 x))) _ HF.1.ib LN2.1 HF.1.size).mono ?_); rintro e w11 ⟨rfl, m1, m2, m3⟩; refine ⟨_, rfl, ?_⟩; have n0_ := af.mk (FI.step HF.1 m1 m2 m3); have n1_ := af.mk (m3 _ _ _ _ (by decide) NE5.1 BK5.1); clear HF BK5; (try clear hl0 hl1 hl2 hl3); (try clear hy0 hy1 hy2 hy3 q1_); have HF := n0_; have BK5 := n1_; clear n0_ n1_ m1 m2 m3))
            go_roundg k1
            case measure => omega
            case rel => exact ⟨x + 1, (by first | rfl | (simp; done) | (simp [*]; done)), ⟨by have := X0.1; omega⟩, ⟨by have := XK.1; omega⟩, _, HF, HSN⟩
    · have c13b : decide (x < (l1.length : Int)) = false := decide_eq_false c13
      have hs : s = lst a0 ++ dS none l1 := by
        have h := HS.1
        rw [List.drop_of_length_le (by have := X0.1; omega)] at h
        simpa [dS] using h
      clear c13 HS
      obtain ⟨tot, htot⟩ : ∃ t, t = lst a0 ++ dS none l1 := ⟨_, rfl⟩
      have HT := af.mk htot.symm
      rw [← htot] at hs
      subst hs
      have z1 : (9223372036854775807 < s.length + 2) = False := eq_false (by have := HL.1; rw [HT.1] at this; omega)
      have z2 : (s.length + 2 ≤ 9223372036854775807) = True := eq_true (by have := HL.1; rw [HT.1] at this; omega)
      have z3 : (9223372036854775807 < s.length + 1) = False := eq_false (by have := HL.1; rw [HT.1] at this; omega)
      have z4 : (s.length + 1 ≤ 9223372036854775807) = True := eq_true (by have := HL.1; rw [HT.1] at this; omega)
      clear htot
      cases b2 with
      | true =>
        have q2 : wr.cell? ⟨g1, 2, none⟩ = some (.bool true) := (ax HF.1.k1 2).trans rfl
        go_wp2_with (first
          | ((with_reducible refine aj (f := 30) rfl ?_); (with_reducible refine aA (N := 46) rfl ?_); refine dW (some 46) rfl rfl Tryz.func30 (by kernel_rfl) rfl #[.pointer (some ⟨g3, 0, none⟩)] rfl (by (try simp only [List.map_toArray, List.map_cons, List.map_nil]); first | done | rfl) ?_; (with_reducible refine (String_a w.heap.size g3 _ _ HF.1.ib HF.1.size).mono ?_); rintro e w4 ⟨rfl, hb⟩; refine ⟨_, rfl, ?_⟩; have HB := af.mk (HF.1.hB.trans hb); clear hb))
        go_ret
        exact ⟨by show Ending.returned (.string (str s ++ (⟨#[32, 123]⟩ : ByteArray))) = _; rw [← List.append_assoc, HT.1]; exact congrArg (fun v => Ending.returned (.string v)) (str_app s [32, 123]), HB.1⟩
      | false =>
        have q2 : wr.cell? ⟨g1, 2, none⟩ = some (.bool false) := (ax HF.1.k1 2).trans rfl
        go_wp2_with (first
          | ((with_reducible refine aj (f := 30) rfl ?_); (with_reducible refine aA (N := 48) rfl ?_); refine dW (some 48) rfl rfl Tryz.func30 (by kernel_rfl) rfl #[.pointer (some ⟨g3, 0, none⟩)] rfl (by (try simp only [List.map_toArray, List.map_cons, List.map_nil]); first | done | rfl) ?_; (with_reducible refine (String_a w.heap.size g3 _ _ HF.1.ib HF.1.size).mono ?_); rintro e w4 ⟨rfl, hb⟩; refine ⟨_, rfl, ?_⟩; have HB := af.mk (HF.1.hB.trans hb); clear hb))
        go_ret
        exact ⟨by show Ending.returned (.string (str s ++ (⟨#[59]⟩ : ByteArray))) = _; rw [← List.append_assoc, HT.1]; exact congrArg (fun v => Ending.returned (.string v)) (str_app s [59]), HB.1⟩
end Go.Proofs.YtkifdadhojbohaaGreatDoor.Pr
namespace Go.Proofs.YtkifdadhojbohaaGreatDoor
open Go.RowKit Go.Proofs.YtkifdadhojbohaaGreatDoorW.PrintWords Go.Proofs.YtkifdadhojbohaaGreatDoorW.PrintLast Go.Proofs.YtkifdadhojbohaaGreatDoorW.PrintMore Go.Proofs
set_option maxHeartbeats 2000000 in
theorem write_s (B b g3 g5 : Nat) (front s : ByteArray) (l : List UInt8) (w : World) (h : IsB B b l w) (h3 : w.heap[g3]? = some (.cells #[.pointer (some ⟨b, 0, none⟩)] 52 (0, 0))) (h5 : w.heap[g5]? = some (.cells #[.string front] 9 (0, 0)))
    (hlen : l.length + (front.size + s.size + 1) ≤ 140737488355328) (hBw : B ≤ w.heap.size) :
    Calls Tryz.prog 48 #[.string s, .pointer (some ⟨g3, 0, none⟩), .pointer (some ⟨g5, 0, none⟩)] w fun e w' => e = .returned (.tuple #[]) ∧ IsB B b (l ++ ((front ++ s) ++ (⟨#[10]⟩ : ByteArray)).data.toList) w' ∧ Below B w w' ∧ fI b w w' := by
  have c3 : w.cell? ⟨g3, 0, none⟩ = some (.pointer (some ⟨b, 0, none⟩)) := (ax h3 0).trans rfl
  have c5 : w.cell? ⟨g5, 0, none⟩ = some (.string front) := (ax h5 0).trans rfl
  have z1 : front.size + s.size ≤ 9223372036854775807 := by omega
  have z0 : (front ++ s).size = front.size + s.size := ByteArray.size_append
  have z2 : (front ++ s).size + 1 ≤ 9223372036854775807 := by omega
  have zz : ((front ++ s) ++ (⟨#[10]⟩ : ByteArray)).size = front.size + s.size + 1 := by rw [ByteArray.size_append, z0]; rfl
  have z1b : decide (front.size + s.size ≤ 9223372036854775807) = true := decide_eq_true z1
  have z2b : decide ((front ++ s).size + 1 ≤ 9223372036854775807) = true := decide_eq_true z2
  go_enter Tryz.func48, Tryz.ntmps48
  go_wp2_with (first | ((with_reducible refine aj (f := 41) rfl ?_); refine dW (some 9) rfl rfl Tryz.func41 (by kernel_rfl) rfl #[.pointer (some ⟨b, 0, none⟩), .string ((front ++ s) ++ (⟨#[10]⟩ : ByteArray))] rfl (by (try simp only [List.map_toArray, List.map_cons, List.map_nil]); first | done | rfl) ?_; (with_reducible refine (gI B b l _ _ h (by rw [zz]; exact hlen) hBw).mono ?_); rintro e w1 ⟨rfl, k1, k2, k3⟩; refine ⟨_, rfl, ?_⟩))
  first | go_end0 | ((try simp only [Exit.inBlock, Exit.then]); refine bodyPost_ret (results_none rfl _ _ _) rfl ?_)
  exact ⟨rfl, k1, k2, k3⟩
end Go.Proofs.YtkifdadhojbohaaGreatDoor
