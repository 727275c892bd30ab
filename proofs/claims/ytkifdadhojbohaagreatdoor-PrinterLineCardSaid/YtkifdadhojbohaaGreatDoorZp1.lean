/- Joined out of the texts of this proof that bear the names GivQ PyA PyB GivC PrF121 GivF GivG GivW GivH GivP: what each shows stands over it there. -/
import Derived.Test.YtkifdadhojbohaaGreatDoorZk1
import Derived.Test.YtkifdadhojbohaaGreatDoorZv1
import Derived.Test.YtkifdadhojbohaaGreatDoorZb1
import Derived.Shelf.Strings.OnBuilder
import Derived.Shelf.Strings.Builder1
import Derived.Shelf.Strings.Builder2
set_option linter.unusedVariables false
set_option linter.unusedSimpArgs false
set_option maxHeartbeats 8000000
set_option maxRecDepth 100000
namespace Go.Proofs.YtkifdadhojbohaaGreatDoor
open Go.RowKit Go.Proofs.YtkifdadhojbohaaGreatDoorW.PrintWords Go.Proofs.YtkifdadhojbohaaGreatDoorW.PrintLast Go.Shelf Go.Proofs
def bldRen : Go.Shelf.Ren := ⟨fun | 166 => 41 | 167 => 43 | 169 => 30 | 170 => 29 | 240 => 60 | 276 => 73 | n => n, fun | 31 => 60 | 37 => 53 | 70 => 52 | 72 => 55 | 75 => 68 | 76 => 69 | 80 => 58 | 127 => 76 | 164 => 99 | n => n, fun n => n⟩
theorem bld166 : Go.Proofs.Lays.n166 Tryz.prog bldRen := {
  mixed := by kernel_rfl
  f166 := Tryz.func41.trans (congrArg some (by kernel_rfl))
  f240 := Tryz.func60.trans (congrArg some (by kernel_rfl))
  f276 := Tryz.func73.trans (congrArg some (by kernel_rfl))
  t0 := Tryz.underlying0
  a0 := Tryz.isAgg0
  z0 := Tryz.sizeOf0
  v0 := Tryz.zeroValue0
  t3 := Tryz.underlying3
  a3 := Tryz.isAgg3
  z3 := Tryz.sizeOf3
  v3 := Tryz.zeroValue3
  t4 := Tryz.underlying4
  a4 := Tryz.isAgg4
  z4 := Tryz.sizeOf4
  v4 := Tryz.zeroValue4
  t9 := Tryz.underlying9
  a9 := Tryz.isAgg9
  z9 := Tryz.sizeOf9
  v9 := Tryz.zeroValue9
  t20 := Tryz.underlying20
  a20 := Tryz.isAgg20
  z20 := Tryz.sizeOf20
  v20 := Tryz.zeroValue20
  t37 := Tryz.underlying53
  a37 := Tryz.isAgg53
  z37 := Tryz.sizeOf53
  v37 := Tryz.zeroValue53
  t70 := Tryz.underlying52
  a70 := Tryz.isAgg52
  z70 := Tryz.sizeOf52
  v70 := Tryz.zeroValue52
  t72 := Tryz.underlying55
  a72 := Tryz.isAgg55
  z72 := Tryz.sizeOf55
  v72 := Tryz.zeroValue55
  t75 := Tryz.underlying68
  a75 := Tryz.isAgg68
  z75 := Tryz.sizeOf68
  v75 := Tryz.zeroValue68
  t164 := Tryz.underlying99
  a164 := Tryz.isAgg99
  z164 := Tryz.sizeOf99
  v164 := Tryz.zeroValue99 }
theorem bld169 : Go.Proofs.Lays.n169 Tryz.prog bldRen := {
  mixed := by kernel_rfl
  f169 := Tryz.func30.trans (congrArg some (by kernel_rfl))
  t0 := Tryz.underlying0
  a0 := Tryz.isAgg0
  z0 := Tryz.sizeOf0
  v0 := Tryz.zeroValue0
  t3 := Tryz.underlying3
  a3 := Tryz.isAgg3
  z3 := Tryz.sizeOf3
  v3 := Tryz.zeroValue3
  t9 := Tryz.underlying9
  a9 := Tryz.isAgg9
  z9 := Tryz.sizeOf9
  v9 := Tryz.zeroValue9
  t37 := Tryz.underlying53
  a37 := Tryz.isAgg53
  z37 := Tryz.sizeOf53
  v37 := Tryz.zeroValue53
  t70 := Tryz.underlying52
  a70 := Tryz.isAgg52
  z70 := Tryz.sizeOf52
  v70 := Tryz.zeroValue52
  t72 := Tryz.underlying55
  a72 := Tryz.isAgg55
  z72 := Tryz.sizeOf55
  v72 := Tryz.zeroValue55
  t127 := Tryz.underlying76
  a127 := Tryz.isAgg76
  z127 := Tryz.sizeOf76
  v127 := Tryz.zeroValue76 }
theorem bld170 : Go.Proofs.Lays.n170 Tryz.prog bldRen := {
  mixed := by kernel_rfl
  f170 := Tryz.func29.trans (congrArg some (by kernel_rfl))
  t0 := Tryz.underlying0
  a0 := Tryz.isAgg0
  z0 := Tryz.sizeOf0
  v0 := Tryz.zeroValue0
  t3 := Tryz.underlying3
  a3 := Tryz.isAgg3
  z3 := Tryz.sizeOf3
  v3 := Tryz.zeroValue3
  t37 := Tryz.underlying53
  a37 := Tryz.isAgg53
  z37 := Tryz.sizeOf53
  v37 := Tryz.zeroValue53
  t70 := Tryz.underlying52
  a70 := Tryz.isAgg52
  z70 := Tryz.sizeOf52
  v70 := Tryz.zeroValue52
  t72 := Tryz.underlying55
  a72 := Tryz.isAgg55
  z72 := Tryz.sizeOf55
  v72 := Tryz.zeroValue55 }
theorem bldExtra : Builder.Extra Tryz.prog bldRen := {
  sizeBuilder := by kernel_rfl
  liesBuilder := by kernel_rfl
  t5 := Tryz.underlying5
  a5 := Tryz.isAgg5
  z5 := Tryz.sizeOf5
  v5 := Tryz.zeroValue5
  infoByte := by kernel_rfl
  cellsByte := by kernel_rfl
  sizeByte := by kernel_rfl
  neB5 := by decide }
def FrameT (b : Nat) (w w' : World) : Prop := ∀ (i : Nat) (cs : Array Value) (t : TypeId) (fr : Nat × Nat), t ≠ 5 → i ≠ b → w.heap[i]? = some (.cells cs t fr) → w'.heap[i]? = some (.cells cs t fr)
theorem FrameT.refl (b : Nat) (w : World) : FrameT b w w := fun _ _ _ _ _ _ h => h
theorem FrameT.trans {b : Nat} {w w1 w2 : World} (h : FrameT b w w1) (k : FrameT b w1 w2) : FrameT b w w2 := fun i cs t fr ht hi hw => k i cs t fr ht hi (h i cs t fr ht hi hw)
theorem FrameT.set {b : Nat} {w w1 : World} (h : FrameT b w w1) (j : Nat) (v : Value) : FrameT b w (w1.setCell ⟨b, j, none⟩ v) := fun i cs t fr ht hi hw => (Below.heap_setCell _ _ _ _ hi).trans (h i cs t fr ht hi hw)
theorem FrameT.below {b : Nat} {w w1 : World} (h : Below w.heap.size w w1) : FrameT b w w1 := fun _ _ _ _ _ _ hw => blk_below hw h
theorem FrameT.grown {b B : Nat} {w w1 w2 : World} (h : FrameT b w w1) {v : Value} {n : Nat} {xs : List Value} (ho : w1.ownsRow B 5 1 v n xs) (hg : w1.grownBy w2 v.ownBlock) : FrameT b w w2 := fun i cs t fr ht hi hw =>
  have hx := h i cs t fr ht hi hw
  (hg.block i (blk_lt hx) (fun e => Lib.ownBlock_ne ho hx ht e.symm)).trans hx
abbrev IsB (B b : Nat) (s : List UInt8) (w : World) : Prop := Lib.IsBuilder 55 5 B b (Lib.byteCells s) w
theorem cells_app (s t : List UInt8) : Lib.byteCells s ++ Lib.byteCells t = Lib.byteCells (s ++ t) := by simp [Lib.byteCells]
theorem copyCheck_s (B b : Nat) (bs : List Value) (w : World) (h : Lib.IsBuilder 55 5 B b bs w) :
    Calls Tryz.prog 60 #[.pointer (some ⟨b, 0, none⟩)] w fun e w' => e = .returned (.tuple #[]) ∧ Lib.BuilderAt 55 5 B b (.pointer (some ⟨b, 0, none⟩)) bs w' ∧ Below B w w' ∧ FrameT b w w' := by
  rcases h with h | h
  · refine (Any.Builder_copyCheck_fresh (ρ := bldRen) { bld166 with } bldExtra.toX72 b w h.cell0 h.shape h.frozen0).mono ?_
    rintro e w' ⟨rfl, rfl⟩
    exact ⟨rfl, h.used _, (Below.refl B w).setCell (p := ⟨b, 0, none⟩) h.1 _, (FrameT.refl b w).set 0 _⟩
  · refine (Any.Builder_copyCheck_used (ρ := bldRen) { bld166 with } bldExtra.toX72 b w h.cell0).mono ?_
    rintro e w' ⟨rfl, rfl⟩
    exact ⟨rfl, h, Below.refl B _, FrameT.refl b _⟩
set_option maxHeartbeats 2000000 in
theorem WriteString_s (B b : Nat) (l : List UInt8) (s : ByteArray) (w : World) (h : IsB B b l w) (hlen : l.length + s.size ≤ 140737488355328) (hBw : B ≤ w.heap.size) :
    Calls Tryz.prog 41 #[.pointer (some ⟨b, 0, none⟩), .string s] w fun e w' => e = .returned (.tuple #[.int .i64 s.size, .nilIface]) ∧ IsB B b (l ++ s.data.toList) w' ∧ Below B w w' ∧ FrameT b w w' := by
  obtain ⟨i0, hi, hz0, hz1, hz2⟩ := info_parts bldExtra.infoByte
  have hbl : (Lib.byteCells l).length = l.length := by simp [Lib.byteCells]
  have t94 := Tryz.underlying55; have t91 := Tryz.underlying52; have t92 := Tryz.underlying53; have t3 := Tryz.underlying3; have t9 := Tryz.underlying9; have t4 := Tryz.underlying4; have t147 := Tryz.underlying99; have t5 := Tryz.underlying5
  have u94 := run_underlying Tryz.underlying55; have u91 := run_underlying Tryz.underlying52; have u92 := run_underlying Tryz.underlying53; have u9 := run_underlying Tryz.underlying9; have u5 := run_underlying Tryz.underlying5
  have e119 : ∀ args w, (callFunc 60 args).run Tryz.prog w = .ok (.enter 60 args) w := enters_of Tryz.func60 (by kernel_rfl) rfl
  go_enter Tryz.func41, Tryz.ntmps41
  go_wp2_with (go_at_fn 60; refine (copyCheck_s B b (Lib.byteCells l) _ h).mono ?_)
  rintro e w1 ⟨rfl, h1, hb1, hf1⟩
  obtain ⟨hB, v, hbk, hown, hne⟩ := h1
  have c0 : w1.cell? ⟨b, 0, none⟩ = some (.pointer (some ⟨b, 0, none⟩)) := by rw [Lib.cell_of_heap hbk]; rfl
  have c1 : w1.cell? ⟨b, 1, none⟩ = some v := by rw [Lib.cell_of_heap hbk]; rfl
  go_wp2_with (at_builtin; refine Lib.wpList_append_own_string _ rfl _ _ 53 9 rfl B 5 i0 Tryz.underlying53 Tryz.underlying9 hi hz0 hz1 hz2 _ _ _ rfl hown s rfl ?c3 ?c4 ?c5 ?_)
  case c3 => rw [hbl]; unfold maxLen; omega
  case c4 => rw [hbl]; omega
  case c5 => have := hb1.size; omega
  intro v' w2 hown' hgrow _
  have hlt : b < w1.heap.size := blk_lt hbk
  have hb2 : w2.heap[b]? = some (.cells #[.pointer (some ⟨b, 0, none⟩), v] 55 (0, 0)) := by
    rw [hgrow.block b hlt (fun e => hne e.symm)]
    exact hbk
  have d0 : w2.cell? ⟨b, 0, none⟩ = some (.pointer (some ⟨b, 0, none⟩)) := by rw [Lib.cell_of_heap hb2]; rfl
  have d1 : w2.cell? ⟨b, 1, none⟩ = some v := by rw [Lib.cell_of_heap hb2]; rfl
  have f1 : w2.frozen? ⟨b, 1, none⟩ = false := Lib.frozen_of_heap hb2 1
  obtain ⟨ao, n', cap, rfl⟩ : ∃ ao n' cap, v' = .slice ao n' cap := by
    rcases hown'.2 with ⟨hv, _⟩ | ⟨g, cap, cur, hv, _⟩
    · exact ⟨_, _, _, hv⟩
    · exact ⟨_, _, _, hv⟩
  go_wp2
  go_ret2
  refine ⟨rfl, ?_, ?_, ?_⟩
  · refine Or.inr ?_
    rw [← cells_app]
    exact Lib.BuilderAt.put (T := 55) (e := 5) hB hb2 (bs' := Lib.byteCells l ++ Lib.strCells s) (by simpa [Lib.strCells_length, hbl] using hown') bldExtra.neB5
  · exact (hb1.grown hgrow (by have := hb1.size; omega) (fun k hk => (hown.lt k hk).1)).setCell (p := ⟨b, 1, none⟩) hB _
  · exact (hf1.grown hown hgrow).set 1 _
set_option maxHeartbeats 2000000 in
theorem WriteByte_s (B b : Nat) (l : List UInt8) (c : UInt8) (w : World) (h : IsB B b l w) (hlen : l.length + 1 ≤ 140737488355328) (hBw : B ≤ w.heap.size) :
    Calls Tryz.prog 43 #[.pointer (some ⟨b, 0, none⟩), .int .u8 c.toNat] w fun e w' => e = .returned .nilIface ∧ IsB B b (l ++ [c]) w' ∧ Below B w w' ∧ FrameT b w w' := by
  obtain ⟨i0, hi, hz0, hz1, hz2⟩ := info_parts bldExtra.infoByte
  have hbl : (Lib.byteCells l).length = l.length := by simp [Lib.byteCells]
  have t94 := Tryz.underlying55; have t91 := Tryz.underlying52; have t92 := Tryz.underlying53; have t3 := Tryz.underlying3; have t9 := Tryz.underlying9; have t4 := Tryz.underlying4; have t147 := Tryz.underlying99; have t5 := Tryz.underlying5
  have u94 := run_underlying Tryz.underlying55; have u91 := run_underlying Tryz.underlying52; have u92 := run_underlying Tryz.underlying53; have u9 := run_underlying Tryz.underlying9; have u5 := run_underlying Tryz.underlying5
  have e119 : ∀ args w, (callFunc 60 args).run Tryz.prog w = .ok (.enter 60 args) w := enters_of Tryz.func60 (by kernel_rfl) rfl
  go_enter Tryz.func43, Tryz.ntmps43
  go_wp2_with (go_at_fn 60; refine (copyCheck_s B b (Lib.byteCells l) _ h).mono ?_)
  rintro e w1 ⟨rfl, h1, hb1, hf1⟩
  obtain ⟨hB, v, hbk, hown, hne⟩ := h1
  have c0 : w1.cell? ⟨b, 0, none⟩ = some (.pointer (some ⟨b, 0, none⟩)) := by rw [Lib.cell_of_heap hbk]; rfl
  have c1 : w1.cell? ⟨b, 1, none⟩ = some v := by rw [Lib.cell_of_heap hbk]; rfl
  go_wp2_with (at_builtin; refine wpList_append_own _ rfl _ _ 53 rfl B 5 i0 (.int .u8 0) 1 1 Tryz.underlying53 hi hz0 hz1 hz2 rfl (by decide) _ _ _ rfl (hown.alloc _) ⟨w1.heap.size, 0, none⟩ 1 1 [.int .u8 c.toNat] rfl rfl ?c1 ?c2 ?c3 ?c4 ?c5 ?_)
  case c1 =>
    intro j u hj
    match j, hj with
    | 0, hj => simp at hj; subst hj; simp [Addr.add]
  case c2 => intro u hu; simp at hu; subst hu; rfl
  case c3 => rw [hbl]; unfold maxLen; omega
  case c4 => rw [hbl]; omega
  case c5 => have := hb1.size; simp; omega
  intro v' w2 hown' hgrow _
  have hlt : b < w1.heap.size := blk_lt hbk
  have hb2 : w2.heap[b]? = some (.cells #[.pointer (some ⟨b, 0, none⟩), v] 55 (0, 0)) := by
    rw [hgrow.block b (by simp; omega) (fun e => hne e.symm), Lib.alloc_old w1 _ b hlt]
    exact hbk
  have d0 : w2.cell? ⟨b, 0, none⟩ = some (.pointer (some ⟨b, 0, none⟩)) := by rw [Lib.cell_of_heap hb2]; rfl
  have d1 : w2.cell? ⟨b, 1, none⟩ = some v := by rw [Lib.cell_of_heap hb2]; rfl
  have f1 : w2.frozen? ⟨b, 1, none⟩ = false := Lib.frozen_of_heap hb2 1
  obtain ⟨g, cap, rfl⟩ : ∃ g cap, v' = .slice (some ⟨g, 0, none⟩) (l.length + 1) cap := by
    rcases hown'.2 with ⟨_, h0⟩ | ⟨g, cap, cur, hv, _⟩
    · omega
    · exact ⟨g, cap, hv⟩
  go_wp2
  go_ret
  refine ⟨rfl, ?_, ?_, ?_⟩
  · refine Or.inr ?_
    rw [← cells_app]
    exact Lib.BuilderAt.put (T := 55) (e := 5) hB hb2 (bs' := Lib.byteCells l ++ [.int .u8 c.toNat]) (by simpa [hbl] using hown') bldExtra.neB5
  · exact ((hb1.alloc (by have := hb1.size; omega) _).grown hgrow (by have := hb1.size; simp; omega) (fun k hk => (hown.lt k hk).1)).setCell (p := ⟨b, 1, none⟩) hB _
  · exact (((hf1.trans (FrameT.below (below_alloc (Below.refl _ _) _))).grown (hown.alloc _) hgrow)).set 1 _
theorem Len_s (B b : Nat) (l : List UInt8) (w : World) (h : IsB B b l w) : Calls Tryz.prog 29 #[.pointer (some ⟨b, 0, none⟩)] w fun e w' => e = .returned (.int .i64 l.length) ∧ w' = w := by
  have := Any.Builder_Len (ρ := bldRen) bld170 B b (Lib.byteCells l) w h
  have hbl : (Lib.byteCells l).length = l.length := by simp [Lib.byteCells]
  rw [hbl] at this
  exact this
end Go.Proofs.YtkifdadhojbohaaGreatDoor
namespace Go.Proofs.YtkifdadhojbohaaGreatDoor.Pu
open Go.RowKit Go.Proofs.YtkifdadhojbohaaGreatDoor Go.Proofs.YtkifdadhojbohaaGreatDoor.Pr Go.Proofs.YtkifdadhojbohaaGreatDoorW.PrintWords Go.Proofs.YtkifdadhojbohaaGreatDoorW.PrintLast Go.Proofs.YtkifdadhojbohaaGreatDoorW.PrintMore
def sp (t : S46) : List UInt8 := spellS t.f0 (lst t.f1) t.f2
def glue (p : Option S46) (t : S46) : Bool := match p with
  | none => false
  | some q => isS q 40 || (isS t 41 || isS t 44)
def atomsL : Option S46 → List S46 → List UInt8
  | _, [] => []
  | p, t :: l => (if glue p t = true then [] else [32]) ++ (sp t ++ atomsL (some t) l)
def firstL (c : S41) : List UInt8 := lst c.f0 ++ (atomsL none c.f1 ++ (if c.f2 = true then [32, 123] else [59]))
def srcL : Nat → List S41 → List UInt8
  | _, [] => []
  | n, c :: l => List.replicate n 32 ++ (firstL c ++ 10 :: ((if c.f2 = true then srcL (n + 2) c.f3 ++ (List.replicate n 32 ++ [125, 10]) else []) ++ srcL n l))
termination_by _ l => SizeOf.sizeOf l
decreasing_by
  · exact size_kids c l
  · exact size_tail c l
inductive Em : List KTN → List UInt8 → Prop
  | nil (g : List UInt8) : skipL false g = [] → Em [] g
  | cons (g : List UInt8) (u : KTN) (us : List KTN) (s : List UInt8) : gapB g → validB u.1 u.2.1 u.2.2 = true → u.1 ≠ 5 → (u.1 = 3 ∨ u.1 = 4 ∨ ∀ c x, s = c :: x → isRunB c = false) → Em us s → Em (u :: us) (g ++ (spellS u.1 u.2.1 u.2.2 ++ s))
theorem gap_app {g h : List UInt8} (a : gapB g) (b : gapB h) : gapB (g ++ h) := fun x => by rw [List.append_assoc, a, b]
theorem Em.gap {us : List KTN} {s g : List UInt8} (h : Em us s) (hg : gapB g) : Em us (g ++ s) := by
  cases h with
  | nil g' h => exact Em.nil _ (by rw [hg, h])
  | cons g' u us s a b c d e =>
    rw [← List.append_assoc]
    exact Em.cons _ u us s (gap_app hg a) b c d e
def spsum (ts : List S46) : Nat := (ts.map fun t => (sp t).length).sum
theorem spsum_app (a b : List S46) : spsum (a ++ b) = spsum a + spsum b := by simp [spsum]
theorem spsum_cons (t : S46) (a : List S46) : spsum (t :: a) = (sp t).length + spsum a := by simp [spsum]
theorem atoms_len : ∀ (a : List S46) (p : Option S46), (atomsL p a).length ≤ spsum a + a.length
  | [], _ => by simp [atomsL, spsum]
  | t :: a, p => by
    have := atoms_len a (some t)
    rw [atomsL, spsum_cons, List.length_append, List.length_append, List.length_cons]
    have : (if glue p t = true then ([] : List UInt8) else [32]).length ≤ 1 := by split <;> simp
    omega
theorem sp_sg (b : UInt8) : (sp (sgT b)).length = 1 := by
  show (spellS 4 [b] 0).length = 1
  simp [spellS]
theorem src_len : ∀ l n, (srcL n l).length ≤ spsum (toksL l) + (toksL l).length + (n + 2 * depL l + 1) * (toksL l).length := by
  refine indL ?_ ?_
  · intro n; simp [srcL]
  · intro c l h1 h2 n
    have hat := atoms_len c.f1 none
    have hw : (sp ⟨1, c.f0, 0, 0⟩).length = (lst c.f0).length := by show (spellS 1 (lst c.f0) 0).length = _; simp [spellS]
    have hl := h2 n
    have hk := h1 (n + 2)
    by_cases hb : c.f2 = true
    · have hd : depL (c :: l) = max (1 + depL c.f3) (depL l) := by rw [depL, if_pos hb]
      have ht : (toksL (c :: l)).length = c.f1.length + 3 + (toksL c.f3).length + (toksL l).length := by
        rw [toksL, if_pos hb]; simp; omega
      have hs : spsum (toksL (c :: l)) = (lst c.f0).length + spsum c.f1 + 2 + spsum (toksL c.f3) + spsum (toksL l) := by
        rw [toksL, if_pos hb, spsum_app, spsum_app, spsum_cons, spsum_app, spsum_cons, spsum_cons, hw, sp_sg, sp_sg]
        simp [spsum]; omega
      have hx : (srcL n (c :: l)).length = n + ((lst c.f0).length + ((atomsL none c.f1).length + 2)) + 1 + ((srcL (n + 2) c.f3).length + (n + 2)) + (srcL n l).length := by
        rw [srcL, if_pos hb]
        unfold firstL
        rw [if_pos hb]
        simp only [List.length_append, List.length_cons, List.length_replicate, List.length_nil]
        omega
      rw [hx, ht, hs, hd]
      generalize hM : n + 2 * max (1 + depL c.f3) (depL l) + 1 = M
      have m1 : (n + 2 + 2 * depL c.f3 + 1) * (toksL c.f3).length ≤ M * (toksL c.f3).length := Nat.mul_le_mul_right _ (by omega)
      have m2 : (n + 2 * depL l + 1) * (toksL l).length ≤ M * (toksL l).length := Nat.mul_le_mul_right _ (by omega)
      have m3 : M * 3 ≤ M * (c.f1.length + 3) := Nat.mul_le_mul_left _ (by omega)
      have m4 : M * (c.f1.length + 3 + (toksL c.f3).length + (toksL l).length) = M * (c.f1.length + 3) + M * (toksL c.f3).length + M * (toksL l).length := by rw [Nat.mul_add, Nat.mul_add]
      rw [m4]
      omega
    · have hd : depL (c :: l) = max 0 (depL l) := by rw [depL, if_neg hb]
      have ht : (toksL (c :: l)).length = c.f1.length + 2 + (toksL l).length := by
        rw [toksL, if_neg hb]; simp; omega
      have hs : spsum (toksL (c :: l)) = (lst c.f0).length + spsum c.f1 + 1 + spsum (toksL l) := by
        rw [toksL, if_neg hb, spsum_app, spsum_app, spsum_cons, spsum_cons, hw, sp_sg]
        simp [spsum]
      have hx : (srcL n (c :: l)).length = n + ((lst c.f0).length + ((atomsL none c.f1).length + 1)) + 1 + (srcL n l).length := by
        rw [srcL, if_neg hb]
        unfold firstL
        rw [if_neg hb]
        simp only [List.length_append, List.length_cons, List.length_replicate, List.length_nil, List.nil_append]
        omega
      rw [hx, ht, hs, hd]
      generalize hM : n + 2 * max 0 (depL l) + 1 = M
      have m2 : (n + 2 * depL l + 1) * (toksL l).length ≤ M * (toksL l).length := Nat.mul_le_mul_right _ (by omega)
      have m3 : M * 2 ≤ M * (c.f1.length + 2) := Nat.mul_le_mul_left _ (by omega)
      have m4 : M * (c.f1.length + 2 + (toksL l).length) = M * (c.f1.length + 2) + M * (toksL l).length := by rw [Nat.mul_add]
      rw [m4]
      omega
def SpA (k : Nat) (t : S46) : Prop := lexer_Spell.f k t.f0 t.f1 t.f2 t.f3 = some (str (sp t), 0)
def SpG (k : Nat) (l : List S41) : Prop := (srcL 0 l).length ≤ 70368744177664 ∧ szL l ≤ 70368744177664 ∧ AllC (fun c => ∀ t ∈ c.f1, SpA k t) l
instance decAll {P : S41 → Prop} [DecidablePred P] (l : List S41) : Decidable (AllC P l) := match l with
  | [] => isTrue AllC.nil
  | c :: l =>
    if h1 : P c then
      match decAll (P := P) c.f3, decAll (P := P) l with
      | isTrue h2, isTrue h3 => isTrue (AllC.cons c l h1 h2 h3)
      | isFalse h2, _ => isFalse fun h => by cases h; exact h2 (by assumption)
      | _, isFalse h3 => isFalse fun h => by cases h; exact h3 (by assumption)
    else isFalse fun h => by cases h; exact h1 (by assumption)
termination_by SizeOf.sizeOf l
decreasing_by
  · exact size_kids c l
  · exact size_tail c l
instance (k : Nat) (t : S46) : Decidable (SpA k t) := by unfold SpA; infer_instance
instance (k : Nat) (l : List S41) : Decidable (SpG k l) := by unfold SpG; infer_instance
theorem SpA.mono {k : Nat} {t : S46} (h : SpA k t) : SpA (k + 1) t := lexer_Spell.mono _ _ _ _ _ _ h
theorem SpG.mono {k : Nat} {l : List S41} (h : SpG k l) : SpG (k + 1) l := ⟨h.1, h.2.1, h.2.2.mono fun _ hc t ht => (hc t ht).mono⟩
theorem dec_lenU : ∀ n, (Lib.decDigits n).length ≤ n + 1 := by
  intro n
  induction n using Nat.strongRecOn with
  | _ n ih =>
    rw [Lib.decDigits]
    split
    · simp
    · have := ih (n / 10) (by omega)
      rw [List.length_append]
      simp only [List.length_cons, List.length_nil]
      omega
theorem num_len (n : Nat) : (numS n).length ≤ n / 1000 + 5 := by
  have h1 := dec_lenU (n / 1000)
  have h2 := (cut_fin ⟨n % 1000, by omega⟩).2.1
  unfold numS
  rw [List.length_append]
  split
  · simp only [List.length_nil]; omega
  · simp only [List.length_cons]
    have h3 : (cutZ (three (n % 1000))).length ≤ 3 := h2
    omega
theorem sp_len (t : S46) : (sp t).length ≤ t.f1.size + 1000010 := by
  unfold sp spellS
  have hl : (lst t.f1).length = t.f1.size := lst_length _
  split
  · simp only [List.cons_append, List.length_cons, List.length_append, List.length_nil]; omega
  · split
    · split
      · have := num_len t.f2.toNat
        omega
      · simp
    · split
      · omega
      · simp
theorem spsum_le (n : Nat) : ∀ ts : List S46, (∀ t ∈ ts, t.f1.size ≤ n) → spsum ts ≤ ts.length * (n + 1000010)
  | [], _ => by simp [spsum]
  | t :: ts, h => by
    have h1 := sp_len t
    have h2 := h t (by simp)
    have h3 := spsum_le n ts fun u hu => h u (by simp [hu])
    rw [spsum_cons, List.length_cons, Nat.add_mul]
    omega
theorem SpG_f (l : List S41) (hl : szL l ≤ 900000) (hP : AllC (txt 900000) l) (hf : formL l = true) (hd : depL l ≤ 8) : ∃ K, ∀ k, K ≤ k → SpG k l := by
  have hv := toks_valid 900000 (by omega) l hf hP
  have hlen : (srcL 0 l).length ≤ 70368744177664 := by
    have h1 := src_len l 0
    have h2 := spsum_le 900000 (toksL l) fun t ht => (hv t ht).2.2
    have h3 := toks_le l
    have h4 : (0 + 2 * depL l + 1) * (toksL l).length ≤ 17 * (toksL l).length := Nat.mul_le_mul_right _ (by omega)
    omega
  have row : ∀ ts : List S46, (∀ t ∈ ts, validB t.f0 (lst t.f1) t.f2 = true ∧ t.f1.size ≤ 900000) → ∃ K, ∀ k, K ≤ k → ∀ t ∈ ts, SpA k t := by
    intro ts
    induction ts with
    | nil => intro _; exact ⟨0, fun _ _ t ht => by cases ht⟩
    | cons t ts ih =>
      intro h
      obtain ⟨K1, h1⟩ := ih fun u hu => h u (by simp [hu])
      obtain ⟨K2, h2⟩ := Spell_f t.f0 t.f1 (by have := (h t (by simp)).2; omega) t.f2 t.f3
      rw [if_pos (h t (by simp)).1] at h2
      refine ⟨K1 + K2, fun k hk u hu => ?_⟩
      rcases List.mem_cons.1 hu with rfl | hu
      · exact h2 k (by omega)
      · exact h1 k (by omega) u hu
  have all : ∀ l : List S41, formL l = true → AllC (txt 900000) l → ∃ K, ∀ k, K ≤ k → AllC (fun c => ∀ t ∈ c.f1, SpA k t) l := by
    refine indL (fun _ _ => ⟨0, fun _ _ => AllC.nil⟩) ?_
    intro c l h1 h2 hf hP
    have hv := toks_valid 900000 (by omega) (c :: l) hf hP
    rw [formL] at hf
    simp only [Bool.and_eq_true] at hf
    obtain ⟨⟨⟨⟨f1, f2⟩, f3⟩, f4⟩, f5⟩ := hf
    cases hP with
    | cons _ _ hc hk hr =>
    obtain ⟨K1, g1⟩ := h1 f4 hk
    obtain ⟨K2, g2⟩ := h2 f5 hr
    obtain ⟨K3, g3⟩ := row c.f1 fun t ht => by
      have := List.all_eq_true.1 f3 t ht
      unfold okA at this
      rw [Bool.and_eq_true] at this
      exact ⟨this.2, hc.2 t ht⟩
    exact ⟨K1 + K2 + K3, fun k hk => AllC.cons c l (g3 k (by omega)) (g1 k (by omega)) (g2 k (by omega))⟩
  obtain ⟨K, g⟩ := all l hf hP
  exact ⟨K, fun k hk => ⟨hlen, by omega, g k hk⟩⟩
end Go.Proofs.YtkifdadhojbohaaGreatDoor.Pu
namespace Go.Proofs.YtkifdadhojbohaaGreatDoor.Pr
open Go.RowKit Go.Proofs.YtkifdadhojbohaaGreatDoor Go.Proofs.YtkifdadhojbohaaGreatDoorW.PrintWords Go.Proofs.YtkifdadhojbohaaGreatDoorW.PrintLast Go.Proofs.YtkifdadhojbohaaGreatDoorW.PrintMore
def printer_Print.f (k : Nat) (l : List S41) : Option (ByteArray × Int) := (parser_Check.f k l).bind fun e => if e = 0 then (if Pu.SpG k l then (if 65536 < (Pu.srcL 0 l).length then some ((⟨#[]⟩ : ByteArray), 6) else some (Pu.str (Pu.srcL 0 l), 0)) else none) else some ((⟨#[]⟩ : ByteArray), e)
theorem printer_Print.mono : ∀ l k, LeO (printer_Print.f k l) (printer_Print.f (k + 1) l) := fun l k =>
  LeO.bind (parser_Check.mono _ _) (fun _ => LeO.ite (fun r h => by
    by_cases hs : Pu.SpG k l
    · rw [if_pos hs] at h
      rw [if_pos hs.mono]
      exact h
    · rw [if_neg hs] at h
      cases h) (LeO.refl _))
end Go.Proofs.YtkifdadhojbohaaGreatDoor.Pr
namespace Go.Proofs.YtkifdadhojbohaaGreatDoor.Pu
open Go.RowKit Go.Proofs.YtkifdadhojbohaaGreatDoor Go.Proofs.YtkifdadhojbohaaGreatDoor.Pr Go.Proofs.YtkifdadhojbohaaGreatDoorW.PrintWords Go.Proofs.YtkifdadhojbohaaGreatDoorW.PrintLast Go.Proofs.YtkifdadhojbohaaGreatDoorW.PrintMore
def printA (l : List S41) : ByteArray × Int := if chkL l = 0 then (if 65536 < (srcL 0 l).length then ((⟨#[]⟩ : ByteArray), 6) else (str (srcL 0 l), 0)) else ((⟨#[]⟩ : ByteArray), chkL l)
theorem Print_f (l : List S41) (hl : szL l ≤ 900000) (hP : AllC (txt 900000) l) : Ev (fun k => printer_Print.f k l) (printA l) := by
  unfold printer_Print.f printA
  refine Ev.bind (Check_f l hl hP) ?_
  by_cases hc : chkL l = 0
  · rw [hc]
    refine Ev.ifp rfl ?_
    rw [if_pos rfl]
    have hfd : formL l = true ∧ depL l ≤ 8 := by
      unfold chkL at hc
      split at hc
      · rename_i hf
        split at hc
        · cases hc
        · exact ⟨hf, by omega⟩
      · cases hc
    obtain ⟨K, g⟩ := SpG_f l hl hP hfd.1 hfd.2
    refine ⟨K, fun k hk => ?_⟩
    refine (if_pos (g k hk)).trans ?_
    split <;> rfl
  · rw [if_neg hc]
    exact Ev.ifn hc (Ev.now _)
theorem SmL.symm {p : Bool} {a b : List S41} (h : SmL p a b) : SmL p b a := by
  induction h with
  | nil => exact SmL.nil
  | cons c d a b h0 h2 h1 h4 hl1 hl2 hk hr ihk ihr =>
    have e := hr.length.1
    have e1 : c.f1.length = d.f1.length := by simpa using congrArg List.length h1
    exact SmL.cons d c b a h0.symm h2.symm h1.symm (fun hp => (h4 hp).symm) (by omega) (by omega) ihk ihr
end Go.Proofs.YtkifdadhojbohaaGreatDoor.Pu
namespace Go.Proofs.YtkifdadhojbohaaGreatDoor
open Go.RowKit Go.Proofs.YtkifdadhojbohaaGreatDoorW.PrintWords Go.Proofs
def strings_Contains.f (s t : ByteArray) : Option Bool := match t.data.toList with
  | [c] => some (decide (0 ≤ Lib.indexByte s.data.toList c))
  | _ => none
theorem strings_Contains.calls (a0 a1 : ByteArray) (r : Bool) (w : World) (h : strings_Contains.f a0 a1 = some r) :
    Calls Tryz.prog 61 #[.string a0, .string a1] w fun e w' => e = .returned (.bool r) ∧ Below w.heap.size w w' := by
  unfold strings_Contains.f at h
  split at h
  · rename_i c hc
    obtain rfl := Option.some.inj h
    have e : a1 = ⟨#[c]⟩ := by
      cases a1 with
      | mk d =>
        cases d with
        | mk l =>
          have : l = [c] := hc
          rw [this]
    rw [e]
    exact (Tryz.strings_Contains_one a0 c w).mono fun e w' ⟨he, hw⟩ => ⟨he, hw ▸ Below.refl _ _⟩
  · cases h
end Go.Proofs.YtkifdadhojbohaaGreatDoor
namespace Go.Proofs.YtkifdadhojbohaaGreatDoor.Pr
open Go.Proofs.YtkifdadhojbohaaGreatDoor
open Go.RowKit Go.Proofs.YtkifdadhojbohaaGreatDoorW.PrintWords Go.Proofs.YtkifdadhojbohaaGreatDoorW.PrintLast Go.Proofs.YtkifdadhojbohaaGreatDoorW.PrintMore
attribute [local go_sem] max2_int min2_int max_two min_two max_three min_three max_four min_four   -- for this text's walks alone
set_option linter.unusedVariables false
set_option linter.unusedSimpArgs false
def printer_sign.f (a0_0 : Int) (a0_1 : ByteArray) (a0_2 : Int) (a0_3 : Int) (a1 : ByteArray) : Option (Bool) := if a0_0 = 4 then (if (a0_1.size : Int) = 1 then ((strings_Contains.f a1 a0_1).bind fun t577 => (some t577)) else (some false)) else (some false)
theorem printer_sign.calls (a0_0 : Int) (a0_1 : ByteArray) (a0_2 : Int) (a0_3 : Int) (a1 : ByteArray) (r : Bool) (w : World) (h : printer_sign.f a0_0 a0_1 a0_2 a0_3 a1 = some r) :
  Calls Tryz.prog 42 #[.agg #[.int .i64 a0_0, .string a0_1, .int .i64 a0_2, .int .i64 a0_3], .string a1] w fun e w' => e = .returned (.bool r) ∧ Below w.heap.size w w' := by
 have hu46 := Tryz.underlying50; have HB := Aside0.mk (Below.refl w.heap.size w); have H : (if a0_0 = 4 then (if (a0_1.size : Int) = 1 then ((strings_Contains.f a1 a0_1).bind fun t577 => (some t577)) else (some false)) else (some false)) = some r := h; clear h; replace H := (sp_ H).symm; obtain ⟨c3, H⟩ | ⟨c3, H⟩ := H
 ·
  have c3b0 := beq_eq_false_iff_ne.mpr c3; have c3b1 := bne_iff_ne.mpr c3; obtain rfl := Option.some.inj H
  go_enter Tryz.func42, Tryz.ntmps42
  go_wp2_with (first | ((with_reducible refine gate_dst (N := 2) rfl ?_); (try (refine gate_guard (by rfl) ?_; dsimp only)); refine bx_ (N := 2) (cs := #[.int .i64 a0_0, .string a0_1, .int .i64 a0_2, .int .i64 a0_3]) (t := 50) ?_; intro gb576 hg w11 hbox hb; refine cut4_ (below_step (bl_ HB.out) hb) (hbox) (bz_ (w := w) hg (bl_ HB.out)) (bz_ (w := w) hg (bl_ HB.out)) ?_; clear HB; intro HB BK576 GW576 GE576; clear hb hbox hg; obtain ⟨hcz12_0, hcz12_1, hcz12_2, hcz12_3, hfz12_0, hfz12_1, hfz12_2, hfz12_3⟩ := cq4_ BK576.out))
  go_ret
  exact ⟨er_, bl1_ HB.out GE576.out⟩
 have c3b0 := beq_iff_eq.mpr c3; have c3b1 := bne_eq_false_iff_eq.mpr c3; clear c3; replace H := (sp_ H).symm; obtain ⟨c4, H⟩ | ⟨c4, H⟩ := H
 ·
  have c4b0 := beq_eq_false_iff_ne.mpr c4; have c4b1 := bne_iff_ne.mpr c4; obtain rfl := Option.some.inj H
  go_enter Tryz.func42, Tryz.ntmps42
  go_wp2_with (first | ((with_reducible refine gate_dst (N := 2) rfl ?_); (try (refine gate_guard (by rfl) ?_; dsimp only)); refine bx_ (N := 2) (cs := #[.int .i64 a0_0, .string a0_1, .int .i64 a0_2, .int .i64 a0_3]) (t := 50) ?_; intro gb576 hg w9 hbox hb; refine cut4_ (below_step (bl_ HB.out) hb) (hbox) (bz_ (w := w) hg (bl_ HB.out)) (bz_ (w := w) hg (bl_ HB.out)) ?_; clear HB; intro HB BK576 GW576 GE576; clear hb hbox hg; obtain ⟨hcz10_0, hcz10_1, hcz10_2, hcz10_3, hfz10_0, hfz10_1, hfz10_2, hfz10_3⟩ := cq4_ BK576.out))
  go_ret
  exact ⟨er_, bl1_ HB.out GE576.out⟩
 have c4b0 := beq_iff_eq.mpr c4; have c4b1 := bne_eq_false_iff_eq.mpr c4; clear c4; replace H := bn_ H; obtain ⟨t577, A5, H⟩ := H; (try dsimp only at H); obtain rfl := Option.some.inj H
 go_enter Tryz.func42, Tryz.ntmps42
 go_wp2_with (first | ((with_reducible refine gate_dst (N := 2) rfl ?_); (try (refine gate_guard (by rfl) ?_; dsimp only)); refine bx_ (N := 2) (cs := #[.int .i64 a0_0, .string a0_1, .int .i64 a0_2, .int .i64 a0_3]) (t := 50) ?_; intro gb576 hg w6 hbox hb; refine cut4_ (below_step (bl_ HB.out) hb) (hbox) (bz_ (w := w) hg (bl_ HB.out)) (bz_ (w := w) hg (bl_ HB.out)) ?_; clear HB; intro HB BK576 GW576 GE576; clear hb hbox hg; obtain ⟨hcz7_0, hcz7_1, hcz7_2, hcz7_3, hfz7_0, hfz7_1, hfz7_2, hfz7_3⟩ := cq4_ BK576.out) | (go_at_call 61; (with_reducible refine (strings_Contains.calls a1 a0_1 t577 _ A5.out).mono ?_); rintro e w8 ⟨rfl, hb⟩; refine cut2_ (bb_ BK576.out hb) (below_step (bl1_ HB.out GE576.out) hb) ?_; clear BK576 HB; intro BK576 HB; (try clear hb); (try clear hb2); (try clear hk); (try clear hi)))
 go_ret
 exact ⟨er_, bl1_ HB.out GE576.out⟩
end Go.Proofs.YtkifdadhojbohaaGreatDoor.Pr
namespace Go.Proofs.YtkifdadhojbohaaGreatDoor.Pr
open Go.Proofs.YtkifdadhojbohaaGreatDoor
open Go.RowKit Go.Proofs.YtkifdadhojbohaaGreatDoorW.PrintWords Go.Proofs.YtkifdadhojbohaaGreatDoorW.PrintLast Go.Proofs.YtkifdadhojbohaaGreatDoorW.PrintMore
set_option linter.unusedVariables false
set_option linter.unusedSimpArgs false
theorem IsB.below {B b : Nat} {s : List UInt8} {w w1 : World} (h : IsB B b s w) (hb : Below w.heap.size w w1) : IsB B b s w1 := by
  have key : ∀ p, Lib.BuilderAt 55 5 B b p (Lib.byteCells s) w → Lib.BuilderAt 55 5 B b p (Lib.byteCells s) w1 := by
    rintro p ⟨hB, v, hbk, hown, hne⟩
    refine ⟨hB, v, blk_below hbk hb, hown.kept (row := none) (grown_of_below hb none) ?_, hne⟩
    cases hv : v.ownBlock with
    | none => exact Or.inl rfl
    | some k => exact Or.inr (by simp)
  rcases h with h | h
  · exact Or.inl (key _ h)
  · exact Or.inr (key _ h)
structure FI (w : World) (g1 g3 : Nat) (cs : Array Value) (s : List UInt8) (w' : World) : Prop where
  hB : Below w.heap.size w w'
  k1 : w'.heap[g1]? = some (.cells cs 25 (0, 0))
  n1 : g1 ≠ g3
  ib : IsB w.heap.size g3 s w'
theorem FI.below {w : World} {g1 g3 : Nat} {cs : Array Value} {s : List UInt8} {w1 w2 : World} (h : FI w g1 g3 cs s w1) (hb : Below w1.heap.size w1 w2) : FI w g1 g3 cs s w2 :=
  ⟨below_step h.hB hb, blk_below h.k1 hb, h.n1, IsB.below h.ib hb⟩
theorem FI.step {w : World} {g1 g3 : Nat} {cs : Array Value} {s s' : List UInt8} {w1 w2 : World} (h : FI w g1 g3 cs s w1) (m1 : IsB w.heap.size g3 s' w2) (m2 : Below w.heap.size w1 w2) (m3 : FrameT g3 w1 w2) : FI w g1 g3 cs s' w2 :=
  ⟨h.hB.trans m2, m3 g1 _ _ _ (by decide) h.n1 h.k1, h.n1, m1⟩
theorem FI.size {w : World} {g1 g3 : Nat} {cs : Array Value} {s : List UInt8} {w1 : World} (h : FI w g1 g3 cs s w1) : w.heap.size ≤ w1.heap.size := below_size h.hB
def prv (l : List S46) (x : Int) : Option S46 := if x = 0 then none else some (rd_T46 l (x - 1))
end Go.Proofs.YtkifdadhojbohaaGreatDoor.Pr
namespace Go.Proofs.YtkifdadhojbohaaGreatDoor.Pr
open Go.Proofs.YtkifdadhojbohaaGreatDoor Go.Shelf Go.Proofs
open Go.RowKit Go.Proofs.YtkifdadhojbohaaGreatDoorW.PrintWords Go.Proofs.YtkifdadhojbohaaGreatDoorW.PrintLast Go.Proofs.YtkifdadhojbohaaGreatDoorW.PrintMore
open Go.Proofs.YtkifdadhojbohaaGreatDoor.Pu (isS sp glue atomsL firstL srcL str SpA SpG lst)
set_option linter.unusedVariables false
set_option linter.unusedSimpArgs false
theorem sign_one (t : S46) : printer_sign.f t.f0 t.f1 t.f2 t.f3 (⟨#[40]⟩ : ByteArray) = some (isS t 40) := by
  unfold printer_sign.f isS
  by_cases h : t.f0 = 4
  · rw [if_pos h, h]
    have hl := Pu.lst_length t.f1
    by_cases h1 : (t.f1.size : Int) = 1
    · rw [if_pos h1]
      unfold strings_Contains.f
      match hm : t.f1.data.toList with
      | [c] =>
        simp only [Option.bind_some]
        show some (decide (0 ≤ Lib.indexByte [40] c)) = some ((4 : Int) == 4 && lst t.f1 == [40])
        have : lst t.f1 = [c] := hm
        rw [this]
        by_cases hc : c = 40
        · subst hc; decide
        · have hc' : ¬ 40 = c := fun e => hc e.symm
          simp [Lib.indexByte, hc, hc']
      | [] => rw [show lst t.f1 = [] from hm] at hl; simp at hl; omega
      | a :: b :: m => rw [show lst t.f1 = a :: b :: m from hm] at hl; simp at hl; omega
    · rw [if_neg h1]
      congr 1
      symm
      rw [Bool.and_eq_false_iff]
      right
      rw [beq_eq_false_iff_ne]
      intro e
      rw [e] at hl
      simp at hl
      omega
  · rw [if_neg h]
    congr 1
    symm
    rw [Bool.and_eq_false_iff]
    left
    exact beq_eq_false_iff_ne.2 h
theorem sign_two (t : S46) : printer_sign.f t.f0 t.f1 t.f2 t.f3 (⟨#[41, 44]⟩ : ByteArray) = some (isS t 41 || isS t 44) := by
  unfold printer_sign.f isS
  by_cases h : t.f0 = 4
  · rw [if_pos h, h]
    have hl := Pu.lst_length t.f1
    by_cases h1 : (t.f1.size : Int) = 1
    · rw [if_pos h1]
      unfold strings_Contains.f
      match hm : t.f1.data.toList with
      | [c] =>
        simp only [Option.bind_some]
        show some (decide (0 ≤ Lib.indexByte [41, 44] c)) = some ((4 : Int) == 4 && lst t.f1 == [41] || (4 : Int) == 4 && lst t.f1 == [44])
        have : lst t.f1 = [c] := hm
        rw [this]
        by_cases hc : c = 41
        · subst hc; decide
        · by_cases hd : c = 44
          · subst hd; decide
          · have hc' : ¬ 41 = c := fun e => hc e.symm
            have hd' : ¬ 44 = c := fun e => hd e.symm
            simp [Lib.indexByte, hc, hd, hc', hd']
      | [] => rw [show lst t.f1 = [] from hm] at hl; simp at hl; omega
      | a :: b :: m => rw [show lst t.f1 = a :: b :: m from hm] at hl; simp at hl; omega
    · rw [if_neg h1]
      congr 1
      symm
      rw [Bool.or_eq_false_iff]
      constructor
      all_goals
        rw [Bool.and_eq_false_iff]
        right
        rw [beq_eq_false_iff_ne]
        intro e
        rw [e] at hl
        simp at hl
        omega
  · rw [if_neg h]
    congr 1
    symm
    rw [show (t.f0 == 4) = false from beq_eq_false_iff_ne.2 h]
    rfl
theorem atoms_at (l : List S46) (x : Int) (h0 : 0 ≤ x) (h1 : x < l.length) :
    atomsL (prv l x) (l.drop x.toNat) = (if glue (prv l x) (rd_T46 l x) = true then [] else [32]) ++ (sp (rd_T46 l x) ++ atomsL (prv l (x + 1)) (l.drop (x + 1).toNat)) := by
  obtain ⟨n, rfl⟩ : ∃ n : Nat, x = n := ⟨x.toNat, by omega⟩
  have hn : n < l.length := by omega
  have e1 : (↑n : Int).toNat = n := rfl
  have e2 : (↑n + 1 : Int).toNat = n + 1 := by omega
  have hr : rd_T46 l ↑n = l[n] := by unfold rd_T46; rw [e1, List.getD_eq_getElem?_getD, List.getElem?_eq_getElem hn]; rfl
  have hp : prv l (↑n + 1) = some l[n] := by unfold prv; rw [if_neg (by omega), show ((n : Int) + 1 - 1) = n by omega, hr]
  rw [e1, e2, hp, hr, List.drop_eq_getElem_cons hn, atomsL]
theorem String_a (B b : Nat) (l : List UInt8) (w : World) (h : IsB B b l w) (hB : B ≤ w.heap.size) : Calls Tryz.prog 30 #[.pointer (some ⟨b, 0, none⟩)] w fun e w' => e = .returned (.string (str l)) ∧ Below B w w' := Any.Builder_String_any (ρ := bldRen) bld169 bldExtra B b l w h hB
theorem WriteByte_32 (B b : Nat) (l : List UInt8) (w : World) (h : IsB B b l w) (hlen : l.length + 1 ≤ 140737488355328) (hBw : B ≤ w.heap.size) :
    Calls Tryz.prog 43 #[.pointer (some ⟨b, 0, none⟩), .int .u8 32] w fun e w' => e = .returned .nilIface ∧ IsB B b (l ++ [32]) w' ∧ Below B w w' ∧ FrameT b w w' := WriteByte_s B b l 32 w h hlen hBw
theorem str_app (a b : List UInt8) : str a ++ (⟨b.toArray⟩ : ByteArray) = str (a ++ b) := by
  apply ByteArray.ext
  simp [str]
theorem rd_mem (l : List S46) (x : Int) (h0 : 0 ≤ x) (h1 : x < l.length) : rd_T46 l x ∈ l := by
  unfold rd_T46
  have hn : x.toNat < l.length := by omega
  rw [List.getD_eq_getElem?_getD, List.getElem?_eq_getElem hn]
  exact List.getElem_mem hn
theorem wrap64_id {x : Int} (h0 : -9223372036854775808 ≤ x) (h1 : x < 9223372036854775808) : wrap64 x = x := by unfold wrap64; omega
theorem IsB.lt {B b : Nat} {s : List UInt8} {w : World} (h : IsB B b s w) : b < w.heap.size := by
  rcases h with h | h
  · exact h.lt
  · exact h.lt
theorem first_s (k : Nat) (w : World) (hG : Gl w) (a0 : ByteArray) (A1 : Option Addr) (c1 : Nat) (l1 : List S46) (b2 : Bool) (A3 : Option Addr) (n3 c3 : Nat) (a4 : Int) (hr : Kd.C k46 w A1 l1.length l1) (hc : l1.length ≤ c1) (hok : ∀ t ∈ l1, SpA k t) (hn : l1.length ≤ 70368744177664) (hlen : (lst a0 ++ atomsL none l1).length ≤ 70368744177664) :
    Calls Tryz.prog 23 #[.agg #[.string a0, .slice A1 l1.length c1, .bool b2, .slice A3 n3 c3, .int .i64 a4]] w fun e w' => e = .returned (.string (str ((lst a0 ++ atomsL none l1) ++ (if b2 = true then [32, 123] else [59])))) ∧ Below w.heap.size w w' := by
  have hu41 := Tryz.underlying25
  have hu46 := Tryz.underlying50
  have hu94 := Tryz.underlying55
  have HR := Aside0.mk hr
  have HC := Aside0.mk hc
  have HG := Aside0.mk hG
  have HO := Aside0.mk hok
  have HL := Aside0.mk hlen
  have HN := Aside0.mk hn
  clear hr hc hG hok hlen hn
  have HB := Aside0.mk (Below.refl w.heap.size w)
  go_enter Tryz.func23, Tryz.ntmps23
  go_wp2_with (first
    | ((with_reducible refine gate_dst (N := 1) rfl ?_); refine box_event ?hg (N := 1) ?hd (cs := #[.string a0, .slice A1 l1.length c1, .bool b2, .slice A3 n3 c3, .int .i64 a4]) (t := 25) ?hr ?_; (case hd => rfl); (case hg => rfl); (case hr => first | (go_simp; done) | (go_simp; rfl)); intro g1 hg w1 hbox hb; have n0_ := Aside0.mk (below_step HB.out hb); have n1_ := Aside0.mk hbox; have n2_ := Aside0.mk ((by rw [hg]; exact Nat.le_refl _) : w.heap.size ≤ g1); clear HB; have HB := n0_; have BK1 := n1_; have GE1 := n2_; clear n0_ n1_ n2_ hb hbox hg)
    | ((with_reducible refine gate_dst (N := 3) rfl ?_); refine box_event ?hg (N := 3) ?hd (cs := #[.pointer none, .slice none 0 0]) (t := 55) ?hr ?_; (case hd => rfl); (case hg => rfl); (case hr => first | (go_simp; done) | (go_simp; rfl)); intro g3 hg w2 hbox hb; have n0_ := Aside0.mk (below_step HB.out hb); have n1_ := Aside0.mk (blk_below BK1.out hb); have n2_ := Aside0.mk hbox; have n3_ := Aside0.mk ((by rw [hg]; exact below_size HB.out) : w.heap.size ≤ g3); have n4_ := Aside0.mk ((by rw [hg]; exact Nat.ne_of_lt (blk_lt BK1.out)) : g1 ≠ g3); clear HB BK1; have HF : Aside0 (FI w g1 g3 #[.string a0, .slice A1 l1.length c1, .bool b2, .slice A3 n3 c3, .int .i64 a4] [] w2) := ⟨⟨n0_.out, n1_.out, n4_.out, Or.inl ⟨n3_.out, .slice none 0 0, n2_.out, World.ownsRow_nil _ _ _ _, by simp [Value.ownBlock]⟩⟩⟩; clear n0_ n1_ n2_ n3_ n4_ hb hbox hg; have q0 : w2.cell? ⟨g1, 0, none⟩ = some (.string a0) := (blk_cell HF.out.k1 0).trans rfl)
    | ((with_reducible refine gate_callee (f := 41) rfl ?_); (with_reducible refine gate_dst (N := 10) rfl ?_); refine goesL_ (some 10) rfl rfl Tryz.func41 (by kernel_rfl) rfl #[.pointer (some ⟨g3, 0, none⟩), .string a0] rfl (by (try simp only [List.map_toArray, List.map_cons, List.map_nil]); first | done | rfl) ?_; (with_reducible refine (WriteString_s w.heap.size g3 [] a0 _ HF.out.ib (by have h := HL.out; rw [List.length_append, Pu.lst_length] at h; rw [List.length_nil]; omega) HF.out.size).mono ?_); rintro e w3 ⟨rfl, m1, m2, m3⟩; refine ⟨_, rfl, ?_⟩; have n0_ := Aside0.mk (FI.step HF.out m1 m2 m3); clear HF q0 m1 m2 m3; have HF := n0_; clear n0_; have q1 : w3.cell? ⟨g1, 1, none⟩ = some (.slice A1 l1.length c1) := (blk_cell HF.out.k1 1).trans rfl))
  go_loopg [14] l1.length (fun kq v14 w' => ∃ x : Int, v14 = .int .i64 x ∧ Aside0 (0 ≤ x) ∧ Aside0 (x + kq = l1.length) ∧ ∃ s, Aside0 (FI w g1 g3 #[.string a0, .slice A1 l1.length c1, .bool b2, .slice A3 n3 c3, .int .i64 a4] s w') ∧ Aside0 (s ++ atomsL (prv l1 x) (l1.drop x.toNat) = lst a0 ++ atomsL none l1))
  case atStart => exact ⟨0, rfl, ⟨Int.le_refl 0⟩, ⟨by omega⟩, _, HF, ⟨rfl⟩⟩
  case round =>
    clear HF q1
    obtain ⟨x, rfl, X0, XK, s, HF, HS⟩ := hrel
    by_cases c13 : x < (l1.length : Int)
    · have c13b : decide (x < (l1.length : Int)) = true := decide_eq_true c13
      obtain ⟨k1, rfl⟩ : ∃ k', gk = k' + 1 := ⟨gk - 1, by have := XK.out; omega⟩
      have hat := atoms_at l1 x X0.out c13
      have hw2 : wrap64 (x + 1) = x + 1 := wrap64_id (by have := X0.out; omega) (by have := HN.out; omega)
      have HT : Aside0 (lexer_Spell.f k (rd_T46 l1 x).f0 (rd_T46 l1 x).f1 (rd_T46 l1 x).f2 (rd_T46 l1 x).f3 = some (str (sp (rd_T46 l1 x)), 0)) := ⟨HO.out _ (rd_mem l1 x X0.out c13)⟩
      have ln1 : s.length + 1 ≤ 140737488355328 := by
        have h := congrArg List.length HS.out; have h2 := HL.out
        rw [List.length_append] at h
        omega
      obtain ⟨ad, eA, hx0, hx1, hx2, hx3⟩ := at_T46 HR.out x X0.out c13
      cases eA
      replace hx0 := (HF.out.hB.cell (World.block_lt_of_cell? w _ hx0)).trans hx0
      replace hx1 := (HF.out.hB.cell (World.block_lt_of_cell? w _ hx1)).trans hx1
      replace hx2 := (HF.out.hB.cell (World.block_lt_of_cell? w _ hx2)).trans hx2
      replace hx3 := (HF.out.hB.cell (World.block_lt_of_cell? w _ hx3)).trans hx3
      have p1 : (0 ≤ x) = True := eq_true X0.out
      have p2 : (x < (l1.length : Int)) = True := eq_true c13
      by_cases hx : x = 0
      · have hglue : glue (prv l1 x) (rd_T46 l1 x) = false := by rw [hx]; rfl
        have cg : decide (x > 0) = false := by rw [hx]; rfl
        have cg' : decide (0 < x) = false := by rw [hx]; rfl
        clear hx c13
        have LN1 := Aside0.mk (ln1 : s.length + 1 ≤ 140737488355328)
        have LN2 : Aside0 (((s ++ [32])).length + (str (sp (rd_T46 l1 x))).size ≤ 140737488355328) := ⟨by rw [Pu.size_str]; have h := congrArg List.length HS.out; have h2 := HL.out; rw [hat, hglue] at h; simp at h h2 ⊢; omega⟩
        have HSN : Aside0 (((s ++ [32]) ++ (str (sp (rd_T46 l1 x))).data.toList) ++ atomsL (prv l1 (x + 1)) (l1.drop (x + 1).toNat) = lst a0 ++ atomsL none l1) := ⟨by have h := HS.out; rw [hat, hglue] at h; rw [← h]; simp [str]⟩
        clear hat hglue ln1
        go_wp2_with (first
          | ((with_reducible refine gate_dst (N := 5) rfl ?_); (try (refine gate_guard (by rfl) ?_; dsimp only)); refine box_event ?hg (N := 5) ?hd (cs := #[.int .i64 0, .string (⟨#[]⟩ : ByteArray), .int .i64 0, .int .i64 0]) (t := 50) ?hr ?_; (case hd => rfl); (case hg => rfl); (case hr => first | (go_simp; done) | (go_simp; rfl)); intro g5 hg w5 hbox hb; have HB5 := Aside0.mk hb; have GE5 := Aside0.mk (Nat.le_of_eq hg.symm); have NE5 := Aside0.mk ((by rw [hg]; exact Nat.ne_of_gt (IsB.lt HF.out.ib)) : g5 ≠ g3); have BK5 := Aside0.mk hbox; have hcz0 : w5.cell? ⟨g5, 0, none⟩ = some (.int .i64 0) := (blk_cell hbox 0).trans rfl; have hfz0 := blk_frozen hbox 0; have hcz1 : w5.cell? ⟨g5, 1, none⟩ = some (.string (⟨#[]⟩ : ByteArray)) := (blk_cell hbox 1).trans rfl; have hfz1 := blk_frozen hbox 1; have hcz2 : w5.cell? ⟨g5, 2, none⟩ = some (.int .i64 0) := (blk_cell hbox 2).trans rfl; have hfz2 := blk_frozen hbox 2; have hcz3 : w5.cell? ⟨g5, 3, none⟩ = some (.int .i64 0) := (blk_cell hbox 3).trans rfl; have hfz3 := blk_frozen hbox 3; clear hbox hb hg)
          | ((with_reducible refine gate_store (t := 50) (p := 5) rfl ?_); refine store_event (t := 50) (p := 5) (v := ?vo6) (w1 := ((((w5.setCell ⟨g5, 0, none⟩ (.int .i64 (rd_T46 l1 x).f0)).setCell ⟨g5, 1, none⟩ (.string (rd_T46 l1 x).f1)).setCell ⟨g5, 2, none⟩ (.int .i64 (rd_T46 l1 x).f2)).setCell ⟨g5, 3, none⟩ (.int .i64 (rd_T46 l1 x).f3))) ?hg ?ho ?hn ?hr ?_; (case ho => rfl); (case hg => rfl); (case hn => rfl); (case hr => first | (go_simp; done) | (go_simp; rfl)); intro w6 hw; have n0_ := Aside0.mk (FI.below HF.out (w2 := w6) (by rw [hw]; exact below_set (below_set (below_set (below_set HB5.out GE5.out) GE5.out) GE5.out) GE5.out)); have n1_ : Aside0 (w6.heap[g5]? = some (.cells #[.int .i64 (rd_T46 l1 x).f0, .string (rd_T46 l1 x).f1, .int .i64 (rd_T46 l1 x).f2, .int .i64 (rd_T46 l1 x).f3] 50 (0, 0))) := ⟨by rw [hw]; refine blk_put (cs := #[.int .i64 (rd_T46 l1 x).f0, .string (rd_T46 l1 x).f1, .int .i64 (rd_T46 l1 x).f2, .int .i64 0]) ?_ 3 _ rfl; refine blk_put (cs := #[.int .i64 (rd_T46 l1 x).f0, .string (rd_T46 l1 x).f1, .int .i64 0, .int .i64 0]) ?_ 2 _ rfl; refine blk_put (cs := #[.int .i64 (rd_T46 l1 x).f0, .string (⟨#[]⟩ : ByteArray), .int .i64 0, .int .i64 0]) ?_ 1 _ rfl; refine blk_put (cs := #[.int .i64 0, .string (⟨#[]⟩ : ByteArray), .int .i64 0, .int .i64 0]) ?_ 0 _ rfl; exact BK5.out⟩; clear HF BK5 HB5 hw; (try clear hcz0 hcz1 hcz2 hcz3 hfz0 hfz1 hfz2 hfz3); (try clear hx0 hx1 hx2 hx3); have HF := n0_; have BK5 := n1_; clear n0_ n1_; have hl0 : w6.cell? ⟨g5, 0, none⟩ = some (.int .i64 (rd_T46 l1 x).f0) := (blk_cell BK5.out 0).trans rfl; have hl1 : w6.cell? ⟨g5, 1, none⟩ = some (.string (rd_T46 l1 x).f1) := (blk_cell BK5.out 1).trans rfl; have hl2 : w6.cell? ⟨g5, 2, none⟩ = some (.int .i64 (rd_T46 l1 x).f2) := (blk_cell BK5.out 2).trans rfl; have hl3 : w6.cell? ⟨g5, 3, none⟩ = some (.int .i64 (rd_T46 l1 x).f3) := (blk_cell BK5.out 3).trans rfl)
          | ((with_reducible refine gate_callee (f := 43) rfl ?_); (with_reducible refine gate_dst (N := 35) rfl ?_); (try (refine gate_guard (by rfl) ?_; dsimp only)); refine goesL_ (some 35) rfl rfl Tryz.func43 (by kernel_rfl) rfl #[.pointer (some ⟨g3, 0, none⟩), .int .u8 32] rfl (by (try simp only [List.map_toArray, List.map_cons, List.map_nil]); first | done | rfl) ?_; (with_reducible refine (WriteByte_32 w.heap.size g3 s _ HF.out.ib LN1.out HF.out.size).mono ?_); rintro e w9 ⟨rfl, m1, m2, m3⟩; refine ⟨_, rfl, ?_⟩; have n0_ := Aside0.mk (FI.step HF.out m1 m2 m3); have n1_ := Aside0.mk (m3 _ _ _ _ (by decide) NE5.out BK5.out); clear HF BK5; (try clear hl0 hl1 hl2 hl3); (try clear hy0 hy1 hy2 hy3 q1_); have HF := n0_; have BK5 := n1_; clear n0_ n1_ m1 m2 m3; have hl0 : w9.cell? ⟨g5, 0, none⟩ = some (.int .i64 (rd_T46 l1 x).f0) := (blk_cell BK5.out 0).trans rfl; have hl1 : w9.cell? ⟨g5, 1, none⟩ = some (.string (rd_T46 l1 x).f1) := (blk_cell BK5.out 1).trans rfl; have hl2 : w9.cell? ⟨g5, 2, none⟩ = some (.int .i64 (rd_T46 l1 x).f2) := (blk_cell BK5.out 2).trans rfl; have hl3 : w9.cell? ⟨g5, 3, none⟩ = some (.int .i64 (rd_T46 l1 x).f3) := (blk_cell BK5.out 3).trans rfl)
          | ((with_reducible refine gate_callee (f := 44) rfl ?_); (with_reducible refine gate_dst (N := 38) rfl ?_); (try (refine gate_guard (by rfl) ?_; dsimp only)); refine goesL_ (some 38) rfl rfl Tryz.func44 (by kernel_rfl) rfl #[.agg #[.int .i64 (rd_T46 l1 x).f0, .string (rd_T46 l1 x).f1, .int .i64 (rd_T46 l1 x).f2, .int .i64 (rd_T46 l1 x).f3]] rfl (by (try simp only [List.map_toArray, List.map_cons, List.map_nil]); first | done | rfl) ?_; (with_reducible refine (lexer_Spell.calls k _ _ _ _ (str (sp (rd_T46 l1 x))) 0 _ (HG.out.below HF.out.hB) HT.out).mono ?_); rintro e w10 ⟨rfl, hb⟩; refine ⟨_, rfl, ?_⟩; have n0_ := Aside0.mk (FI.below HF.out hb); have n1_ := Aside0.mk (blk_below BK5.out hb); clear HF BK5; (try clear hl0 hl1 hl2 hl3); (try clear hy0 hy1 hy2 hy3 q1_); have HF := n0_; have BK5 := n1_; clear n0_ n1_ hb)
          | ((with_reducible refine gate_callee (f := 41) rfl ?_); (with_reducible refine gate_dst (N := 42) rfl ?_); (try (refine gate_guard (by rfl) ?_; dsimp only)); refine goesL_ (some 42) rfl rfl Tryz.func41 (by kernel_rfl) rfl #[.pointer (some ⟨g3, 0, none⟩), .string (str (sp (rd_T46 l1 x)))] rfl (by (try simp only [List.map_toArray, List.map_cons, List.map_nil]); first | done | rfl) ?_; (with_reducible refine (WriteString_s w.heap.size g3 (s ++ [32]) (str (sp (rd_T46 l1 x))) _ HF.out.ib LN2.out HF.out.size).mono ?_); rintro e w11 ⟨rfl, m1, m2, m3⟩; refine ⟨_, rfl, ?_⟩; have n0_ := Aside0.mk (FI.step HF.out m1 m2 m3); have n1_ := Aside0.mk (m3 _ _ _ _ (by decide) NE5.out BK5.out); clear HF BK5; (try clear hl0 hl1 hl2 hl3); (try clear hy0 hy1 hy2 hy3 q1_); have HF := n0_; have BK5 := n1_; clear n0_ n1_ m1 m2 m3))
        go_roundg k1
        case measure => omega
        case rel => exact ⟨x + 1, (by first | rfl | (simp; done) | (simp [*]; done)), ⟨by have := X0.out; omega⟩, ⟨by have := XK.out; omega⟩, _, HF, HSN⟩
      · have cg : decide (x > 0) = true := decide_eq_true (by have := X0.out; omega)
        have cg' : decide (0 < x) = true := decide_eq_true (by have := X0.out; omega)
        have hprv : prv l1 x = some (rd_T46 l1 (x - 1)) := if_neg hx
        have hw1 : wrap64 (x - 1) = x - 1 := wrap64_id (by have := X0.out; omega) (by have := HN.out; omega)
        obtain ⟨ad2, eA, hy0, hy1, hy2, hy3⟩ := at_T46 HR.out (x - 1) (by have := X0.out; omega) (by omega)
        cases eA
        have ex : (x - 1).toNat = x.toNat - 1 := by omega
        rw [ex] at hy0 hy1 hy2 hy3
        clear ex
        have HY0 := Aside0.mk hy0
        have HY1 := Aside0.mk hy1
        have HY2 := Aside0.mk hy2
        have HY3 := Aside0.mk hy3
        have p5 : (1 ≤ x) = True := eq_true (by have := X0.out; omega)
        have p6 : (x < 1) = False := eq_false (by have := X0.out; omega)
        have p3 : (0 ≤ x - 1) = True := eq_true (by have := X0.out; omega)
        have p4 : (x - 1 < (l1.length : Int)) = True := eq_true (by omega)
        clear hx c13 hy0 hy1 hy2 hy3
        by_cases h1 : isS (rd_T46 l1 (x - 1)) 40 = true
        · have hglue : glue (prv l1 x) (rd_T46 l1 x) = true := by rw [hprv]; simp [glue, h1]
          have S1 := Aside0.mk ((sign_one (rd_T46 l1 (x - 1))).trans (congrArg some h1))
          clear h1 hprv
          have LN1 := Aside0.mk (ln1 : s.length + 1 ≤ 140737488355328)
          have LN2 : Aside0 ((s).length + (str (sp (rd_T46 l1 x))).size ≤ 140737488355328) := ⟨by rw [Pu.size_str]; have h := congrArg List.length HS.out; have h2 := HL.out; rw [hat, hglue] at h; simp at h h2 ⊢; omega⟩
          have HSN : Aside0 ((s ++ (str (sp (rd_T46 l1 x))).data.toList) ++ atomsL (prv l1 (x + 1)) (l1.drop (x + 1).toNat) = lst a0 ++ atomsL none l1) := ⟨by have h := HS.out; rw [hat, hglue] at h; rw [← h]; simp [str]⟩
          clear hat hglue ln1
          go_wp2_with (first
            | ((with_reducible refine gate_dst (N := 5) rfl ?_); (try (refine gate_guard (by rfl) ?_; dsimp only)); refine box_event ?hg (N := 5) ?hd (cs := #[.int .i64 0, .string (⟨#[]⟩ : ByteArray), .int .i64 0, .int .i64 0]) (t := 50) ?hr ?_; (case hd => rfl); (case hg => rfl); (case hr => first | (go_simp; done) | (go_simp; rfl)); intro g5 hg w5 hbox hb; have HB5 := Aside0.mk hb; have GE5 := Aside0.mk (Nat.le_of_eq hg.symm); have NE5 := Aside0.mk ((by rw [hg]; exact Nat.ne_of_gt (IsB.lt HF.out.ib)) : g5 ≠ g3); have BK5 := Aside0.mk hbox; have hcz0 : w5.cell? ⟨g5, 0, none⟩ = some (.int .i64 0) := (blk_cell hbox 0).trans rfl; have hfz0 := blk_frozen hbox 0; have hcz1 : w5.cell? ⟨g5, 1, none⟩ = some (.string (⟨#[]⟩ : ByteArray)) := (blk_cell hbox 1).trans rfl; have hfz1 := blk_frozen hbox 1; have hcz2 : w5.cell? ⟨g5, 2, none⟩ = some (.int .i64 0) := (blk_cell hbox 2).trans rfl; have hfz2 := blk_frozen hbox 2; have hcz3 : w5.cell? ⟨g5, 3, none⟩ = some (.int .i64 0) := (blk_cell hbox 3).trans rfl; have hfz3 := blk_frozen hbox 3; clear hbox hb hg)
            | ((with_reducible refine gate_store (t := 50) (p := 5) rfl ?_); refine store_event (t := 50) (p := 5) (v := ?vo6) (w1 := ((((w5.setCell ⟨g5, 0, none⟩ (.int .i64 (rd_T46 l1 x).f0)).setCell ⟨g5, 1, none⟩ (.string (rd_T46 l1 x).f1)).setCell ⟨g5, 2, none⟩ (.int .i64 (rd_T46 l1 x).f2)).setCell ⟨g5, 3, none⟩ (.int .i64 (rd_T46 l1 x).f3))) ?hg ?ho ?hn ?hr ?_; (case ho => rfl); (case hg => rfl); (case hn => rfl); (case hr => first | (go_simp; done) | (go_simp; rfl)); intro w6 hw; have n0_ := Aside0.mk (FI.below HF.out (w2 := w6) (by rw [hw]; exact below_set (below_set (below_set (below_set HB5.out GE5.out) GE5.out) GE5.out) GE5.out)); have n1_ : Aside0 (w6.heap[g5]? = some (.cells #[.int .i64 (rd_T46 l1 x).f0, .string (rd_T46 l1 x).f1, .int .i64 (rd_T46 l1 x).f2, .int .i64 (rd_T46 l1 x).f3] 50 (0, 0))) := ⟨by rw [hw]; refine blk_put (cs := #[.int .i64 (rd_T46 l1 x).f0, .string (rd_T46 l1 x).f1, .int .i64 (rd_T46 l1 x).f2, .int .i64 0]) ?_ 3 _ rfl; refine blk_put (cs := #[.int .i64 (rd_T46 l1 x).f0, .string (rd_T46 l1 x).f1, .int .i64 0, .int .i64 0]) ?_ 2 _ rfl; refine blk_put (cs := #[.int .i64 (rd_T46 l1 x).f0, .string (⟨#[]⟩ : ByteArray), .int .i64 0, .int .i64 0]) ?_ 1 _ rfl; refine blk_put (cs := #[.int .i64 0, .string (⟨#[]⟩ : ByteArray), .int .i64 0, .int .i64 0]) ?_ 0 _ rfl; exact BK5.out⟩; clear HF BK5 HB5 hw; (try clear hcz0 hcz1 hcz2 hcz3 hfz0 hfz1 hfz2 hfz3); (try clear hx0 hx1 hx2 hx3); have HF := n0_; have BK5 := n1_; clear n0_ n1_; have hl0 : w6.cell? ⟨g5, 0, none⟩ = some (.int .i64 (rd_T46 l1 x).f0) := (blk_cell BK5.out 0).trans rfl; have hl1 : w6.cell? ⟨g5, 1, none⟩ = some (.string (rd_T46 l1 x).f1) := (blk_cell BK5.out 1).trans rfl; have hl2 : w6.cell? ⟨g5, 2, none⟩ = some (.int .i64 (rd_T46 l1 x).f2) := (blk_cell BK5.out 2).trans rfl; have hl3 : w6.cell? ⟨g5, 3, none⟩ = some (.int .i64 (rd_T46 l1 x).f3) := (blk_cell BK5.out 3).trans rfl; have q1_ : w6.cell? ⟨g1, 1, none⟩ = some (.slice (some ad) l1.length c1) := (blk_cell HF.out.k1 1).trans rfl; have hy0 := (HF.out.hB.cell (World.block_lt_of_cell? w _ HY0.out)).trans HY0.out; have hy1 := (HF.out.hB.cell (World.block_lt_of_cell? w _ HY1.out)).trans HY1.out; have hy2 := (HF.out.hB.cell (World.block_lt_of_cell? w _ HY2.out)).trans HY2.out; have hy3 := (HF.out.hB.cell (World.block_lt_of_cell? w _ HY3.out)).trans HY3.out)
            | ((with_reducible refine gate_callee (f := 42) rfl ?_); (with_reducible refine gate_dst (N := 28) rfl ?_); (try (refine gate_guard (by rfl) ?_; dsimp only)); refine goesL_ (some 28) rfl rfl Tryz.func42 (by kernel_rfl) rfl #[.agg #[.int .i64 (rd_T46 l1 (x - 1)).f0, .string (rd_T46 l1 (x - 1)).f1, .int .i64 (rd_T46 l1 (x - 1)).f2, .int .i64 (rd_T46 l1 (x - 1)).f3], .string (⟨#[40]⟩ : ByteArray)] rfl (by (try simp only [List.map_toArray, List.map_cons, List.map_nil]); first | done | rfl) ?_; (with_reducible refine (printer_sign.calls _ _ _ _ _ true _ S1.out).mono ?_); rintro e w7 ⟨rfl, hb⟩; refine ⟨_, rfl, ?_⟩; have n0_ := Aside0.mk (FI.below HF.out hb); have n1_ := Aside0.mk (blk_below BK5.out hb); clear HF BK5; (try clear hl0 hl1 hl2 hl3); (try clear hy0 hy1 hy2 hy3 q1_); have HF := n0_; have BK5 := n1_; clear n0_ n1_ hb; have hl0 : w7.cell? ⟨g5, 0, none⟩ = some (.int .i64 (rd_T46 l1 x).f0) := (blk_cell BK5.out 0).trans rfl; have hl1 : w7.cell? ⟨g5, 1, none⟩ = some (.string (rd_T46 l1 x).f1) := (blk_cell BK5.out 1).trans rfl; have hl2 : w7.cell? ⟨g5, 2, none⟩ = some (.int .i64 (rd_T46 l1 x).f2) := (blk_cell BK5.out 2).trans rfl; have hl3 : w7.cell? ⟨g5, 3, none⟩ = some (.int .i64 (rd_T46 l1 x).f3) := (blk_cell BK5.out 3).trans rfl)
            | ((with_reducible refine gate_callee (f := 44) rfl ?_); (with_reducible refine gate_dst (N := 38) rfl ?_); (try (refine gate_guard (by rfl) ?_; dsimp only)); refine goesL_ (some 38) rfl rfl Tryz.func44 (by kernel_rfl) rfl #[.agg #[.int .i64 (rd_T46 l1 x).f0, .string (rd_T46 l1 x).f1, .int .i64 (rd_T46 l1 x).f2, .int .i64 (rd_T46 l1 x).f3]] rfl (by (try simp only [List.map_toArray, List.map_cons, List.map_nil]); first | done | rfl) ?_; (with_reducible refine (lexer_Spell.calls k _ _ _ _ (str (sp (rd_T46 l1 x))) 0 _ (HG.out.below HF.out.hB) HT.out).mono ?_); rintro e w10 ⟨rfl, hb⟩; refine ⟨_, rfl, ?_⟩; have n0_ := Aside0.mk (FI.below HF.out hb); have n1_ := Aside0.mk (blk_below BK5.out hb); clear HF BK5; (try clear hl0 hl1 hl2 hl3); (try clear hy0 hy1 hy2 hy3 q1_); have HF := n0_; have BK5 := n1_; clear n0_ n1_ hb)
            | ((with_reducible refine gate_callee (f := 41) rfl ?_); (with_reducible refine gate_dst (N := 42) rfl ?_); (try (refine gate_guard (by rfl) ?_; dsimp only)); refine goesL_ (some 42) rfl rfl Tryz.func41 (by kernel_rfl) rfl #[.pointer (some ⟨g3, 0, none⟩), .string (str (sp (rd_T46 l1 x)))] rfl (by (try simp only [List.map_toArray, List.map_cons, List.map_nil]); first | done | rfl) ?_; (with_reducible refine (WriteString_s w.heap.size g3 s (str (sp (rd_T46 l1 x))) _ HF.out.ib LN2.out HF.out.size).mono ?_); rintro e w11 ⟨rfl, m1, m2, m3⟩; refine ⟨_, rfl, ?_⟩; have n0_ := Aside0.mk (FI.step HF.out m1 m2 m3); have n1_ := Aside0.mk (m3 _ _ _ _ (by decide) NE5.out BK5.out); clear HF BK5; (try clear hl0 hl1 hl2 hl3); (try clear hy0 hy1 hy2 hy3 q1_); have HF := n0_; have BK5 := n1_; clear n0_ n1_ m1 m2 m3))
          go_roundg k1
          case measure => omega
          case rel => exact ⟨x + 1, (by first | rfl | (simp; done) | (simp [*]; done)), ⟨by have := X0.out; omega⟩, ⟨by have := XK.out; omega⟩, _, HF, HSN⟩
        · have S1 := Aside0.mk ((sign_one (rd_T46 l1 (x - 1))).trans (congrArg some (Bool.eq_false_iff.2 h1)))
          by_cases h2 : (isS (rd_T46 l1 x) 41 || isS (rd_T46 l1 x) 44) = true
          · have hglue : glue (prv l1 x) (rd_T46 l1 x) = true := by rw [hprv]; simp [glue, h2]
            have S2 := Aside0.mk ((sign_two (rd_T46 l1 x)).trans (congrArg some h2))
            clear h1 h2 hprv
            have LN1 := Aside0.mk (ln1 : s.length + 1 ≤ 140737488355328)
            have LN2 : Aside0 ((s).length + (str (sp (rd_T46 l1 x))).size ≤ 140737488355328) := ⟨by rw [Pu.size_str]; have h := congrArg List.length HS.out; have h2 := HL.out; rw [hat, hglue] at h; simp at h h2 ⊢; omega⟩
            have HSN : Aside0 ((s ++ (str (sp (rd_T46 l1 x))).data.toList) ++ atomsL (prv l1 (x + 1)) (l1.drop (x + 1).toNat) = lst a0 ++ atomsL none l1) := ⟨by have h := HS.out; rw [hat, hglue] at h; rw [← h]; simp [str]⟩
            clear hat hglue ln1
            go_wp2_with (first
              | ((with_reducible refine gate_dst (N := 5) rfl ?_); (try (refine gate_guard (by rfl) ?_; dsimp only)); refine box_event ?hg (N := 5) ?hd (cs := #[.int .i64 0, .string (⟨#[]⟩ : ByteArray), .int .i64 0, .int .i64 0]) (t := 50) ?hr ?_; (case hd => rfl); (case hg => rfl); (case hr => first | (go_simp; done) | (go_simp; rfl)); intro g5 hg w5 hbox hb; have HB5 := Aside0.mk hb; have GE5 := Aside0.mk (Nat.le_of_eq hg.symm); have NE5 := Aside0.mk ((by rw [hg]; exact Nat.ne_of_gt (IsB.lt HF.out.ib)) : g5 ≠ g3); have BK5 := Aside0.mk hbox; have hcz0 : w5.cell? ⟨g5, 0, none⟩ = some (.int .i64 0) := (blk_cell hbox 0).trans rfl; have hfz0 := blk_frozen hbox 0; have hcz1 : w5.cell? ⟨g5, 1, none⟩ = some (.string (⟨#[]⟩ : ByteArray)) := (blk_cell hbox 1).trans rfl; have hfz1 := blk_frozen hbox 1; have hcz2 : w5.cell? ⟨g5, 2, none⟩ = some (.int .i64 0) := (blk_cell hbox 2).trans rfl; have hfz2 := blk_frozen hbox 2; have hcz3 : w5.cell? ⟨g5, 3, none⟩ = some (.int .i64 0) := (blk_cell hbox 3).trans rfl; have hfz3 := blk_frozen hbox 3; clear hbox hb hg)
              | ((with_reducible refine gate_store (t := 50) (p := 5) rfl ?_); refine store_event (t := 50) (p := 5) (v := ?vo6) (w1 := ((((w5.setCell ⟨g5, 0, none⟩ (.int .i64 (rd_T46 l1 x).f0)).setCell ⟨g5, 1, none⟩ (.string (rd_T46 l1 x).f1)).setCell ⟨g5, 2, none⟩ (.int .i64 (rd_T46 l1 x).f2)).setCell ⟨g5, 3, none⟩ (.int .i64 (rd_T46 l1 x).f3))) ?hg ?ho ?hn ?hr ?_; (case ho => rfl); (case hg => rfl); (case hn => rfl); (case hr => first | (go_simp; done) | (go_simp; rfl)); intro w6 hw; have n0_ := Aside0.mk (FI.below HF.out (w2 := w6) (by rw [hw]; exact below_set (below_set (below_set (below_set HB5.out GE5.out) GE5.out) GE5.out) GE5.out)); have n1_ : Aside0 (w6.heap[g5]? = some (.cells #[.int .i64 (rd_T46 l1 x).f0, .string (rd_T46 l1 x).f1, .int .i64 (rd_T46 l1 x).f2, .int .i64 (rd_T46 l1 x).f3] 50 (0, 0))) := ⟨by rw [hw]; refine blk_put (cs := #[.int .i64 (rd_T46 l1 x).f0, .string (rd_T46 l1 x).f1, .int .i64 (rd_T46 l1 x).f2, .int .i64 0]) ?_ 3 _ rfl; refine blk_put (cs := #[.int .i64 (rd_T46 l1 x).f0, .string (rd_T46 l1 x).f1, .int .i64 0, .int .i64 0]) ?_ 2 _ rfl; refine blk_put (cs := #[.int .i64 (rd_T46 l1 x).f0, .string (⟨#[]⟩ : ByteArray), .int .i64 0, .int .i64 0]) ?_ 1 _ rfl; refine blk_put (cs := #[.int .i64 0, .string (⟨#[]⟩ : ByteArray), .int .i64 0, .int .i64 0]) ?_ 0 _ rfl; exact BK5.out⟩; clear HF BK5 HB5 hw; (try clear hcz0 hcz1 hcz2 hcz3 hfz0 hfz1 hfz2 hfz3); (try clear hx0 hx1 hx2 hx3); have HF := n0_; have BK5 := n1_; clear n0_ n1_; have hl0 : w6.cell? ⟨g5, 0, none⟩ = some (.int .i64 (rd_T46 l1 x).f0) := (blk_cell BK5.out 0).trans rfl; have hl1 : w6.cell? ⟨g5, 1, none⟩ = some (.string (rd_T46 l1 x).f1) := (blk_cell BK5.out 1).trans rfl; have hl2 : w6.cell? ⟨g5, 2, none⟩ = some (.int .i64 (rd_T46 l1 x).f2) := (blk_cell BK5.out 2).trans rfl; have hl3 : w6.cell? ⟨g5, 3, none⟩ = some (.int .i64 (rd_T46 l1 x).f3) := (blk_cell BK5.out 3).trans rfl; have q1_ : w6.cell? ⟨g1, 1, none⟩ = some (.slice (some ad) l1.length c1) := (blk_cell HF.out.k1 1).trans rfl; have hy0 := (HF.out.hB.cell (World.block_lt_of_cell? w _ HY0.out)).trans HY0.out; have hy1 := (HF.out.hB.cell (World.block_lt_of_cell? w _ HY1.out)).trans HY1.out; have hy2 := (HF.out.hB.cell (World.block_lt_of_cell? w _ HY2.out)).trans HY2.out; have hy3 := (HF.out.hB.cell (World.block_lt_of_cell? w _ HY3.out)).trans HY3.out)
              | ((with_reducible refine gate_callee (f := 42) rfl ?_); (with_reducible refine gate_dst (N := 28) rfl ?_); (try (refine gate_guard (by rfl) ?_; dsimp only)); refine goesL_ (some 28) rfl rfl Tryz.func42 (by kernel_rfl) rfl #[.agg #[.int .i64 (rd_T46 l1 (x - 1)).f0, .string (rd_T46 l1 (x - 1)).f1, .int .i64 (rd_T46 l1 (x - 1)).f2, .int .i64 (rd_T46 l1 (x - 1)).f3], .string (⟨#[40]⟩ : ByteArray)] rfl (by (try simp only [List.map_toArray, List.map_cons, List.map_nil]); first | done | rfl) ?_; (with_reducible refine (printer_sign.calls _ _ _ _ _ false _ S1.out).mono ?_); rintro e w7 ⟨rfl, hb⟩; refine ⟨_, rfl, ?_⟩; have n0_ := Aside0.mk (FI.below HF.out hb); have n1_ := Aside0.mk (blk_below BK5.out hb); clear HF BK5; (try clear hl0 hl1 hl2 hl3); (try clear hy0 hy1 hy2 hy3 q1_); have HF := n0_; have BK5 := n1_; clear n0_ n1_ hb; have hl0 : w7.cell? ⟨g5, 0, none⟩ = some (.int .i64 (rd_T46 l1 x).f0) := (blk_cell BK5.out 0).trans rfl; have hl1 : w7.cell? ⟨g5, 1, none⟩ = some (.string (rd_T46 l1 x).f1) := (blk_cell BK5.out 1).trans rfl; have hl2 : w7.cell? ⟨g5, 2, none⟩ = some (.int .i64 (rd_T46 l1 x).f2) := (blk_cell BK5.out 2).trans rfl; have hl3 : w7.cell? ⟨g5, 3, none⟩ = some (.int .i64 (rd_T46 l1 x).f3) := (blk_cell BK5.out 3).trans rfl)
              | ((with_reducible refine gate_callee (f := 42) rfl ?_); (with_reducible refine gate_dst (N := 31) rfl ?_); (try (refine gate_guard (by rfl) ?_; dsimp only)); refine goesL_ (some 31) rfl rfl Tryz.func42 (by kernel_rfl) rfl #[.agg #[.int .i64 (rd_T46 l1 x).f0, .string (rd_T46 l1 x).f1, .int .i64 (rd_T46 l1 x).f2, .int .i64 (rd_T46 l1 x).f3], .string (⟨#[41, 44]⟩ : ByteArray)] rfl (by (try simp only [List.map_toArray, List.map_cons, List.map_nil]); first | done | rfl) ?_; (with_reducible refine (printer_sign.calls _ _ _ _ _ true _ S2.out).mono ?_); rintro e w8 ⟨rfl, hb⟩; refine ⟨_, rfl, ?_⟩; have n0_ := Aside0.mk (FI.below HF.out hb); have n1_ := Aside0.mk (blk_below BK5.out hb); clear HF BK5; (try clear hl0 hl1 hl2 hl3); (try clear hy0 hy1 hy2 hy3 q1_); have HF := n0_; have BK5 := n1_; clear n0_ n1_ hb; have hl0 : w8.cell? ⟨g5, 0, none⟩ = some (.int .i64 (rd_T46 l1 x).f0) := (blk_cell BK5.out 0).trans rfl; have hl1 : w8.cell? ⟨g5, 1, none⟩ = some (.string (rd_T46 l1 x).f1) := (blk_cell BK5.out 1).trans rfl; have hl2 : w8.cell? ⟨g5, 2, none⟩ = some (.int .i64 (rd_T46 l1 x).f2) := (blk_cell BK5.out 2).trans rfl; have hl3 : w8.cell? ⟨g5, 3, none⟩ = some (.int .i64 (rd_T46 l1 x).f3) := (blk_cell BK5.out 3).trans rfl)
              | ((with_reducible refine gate_callee (f := 44) rfl ?_); (with_reducible refine gate_dst (N := 38) rfl ?_); (try (refine gate_guard (by rfl) ?_; dsimp only)); refine goesL_ (some 38) rfl rfl Tryz.func44 (by kernel_rfl) rfl #[.agg #[.int .i64 (rd_T46 l1 x).f0, .string (rd_T46 l1 x).f1, .int .i64 (rd_T46 l1 x).f2, .int .i64 (rd_T46 l1 x).f3]] rfl (by (try simp only [List.map_toArray, List.map_cons, List.map_nil]); first | done | rfl) ?_; (with_reducible refine (lexer_Spell.calls k _ _ _ _ (str (sp (rd_T46 l1 x))) 0 _ (HG.out.below HF.out.hB) HT.out).mono ?_); rintro e w10 ⟨rfl, hb⟩; refine ⟨_, rfl, ?_⟩; have n0_ := Aside0.mk (FI.below HF.out hb); have n1_ := Aside0.mk (blk_below BK5.out hb); clear HF BK5; (try clear hl0 hl1 hl2 hl3); (try clear hy0 hy1 hy2 hy3 q1_); have HF := n0_; have BK5 := n1_; clear n0_ n1_ hb)
              | ((with_reducible refine gate_callee (f := 41) rfl ?_); (with_reducible refine gate_dst (N := 42) rfl ?_); (try (refine gate_guard (by rfl) ?_; dsimp only)); refine goesL_ (some 42) rfl rfl Tryz.func41 (by kernel_rfl) rfl #[.pointer (some ⟨g3, 0, none⟩), .string (str (sp (rd_T46 l1 x)))] rfl (by (try simp only [List.map_toArray, List.map_cons, List.map_nil]); first | done | rfl) ?_; (with_reducible refine (WriteString_s w.heap.size g3 s (str (sp (rd_T46 l1 x))) _ HF.out.ib LN2.out HF.out.size).mono ?_); rintro e w11 ⟨rfl, m1, m2, m3⟩; refine ⟨_, rfl, ?_⟩; have n0_ := Aside0.mk (FI.step HF.out m1 m2 m3); have n1_ := Aside0.mk (m3 _ _ _ _ (by decide) NE5.out BK5.out); clear HF BK5; (try clear hl0 hl1 hl2 hl3); (try clear hy0 hy1 hy2 hy3 q1_); have HF := n0_; have BK5 := n1_; clear n0_ n1_ m1 m2 m3))
            go_roundg k1
            case measure => omega
            case rel => exact ⟨x + 1, (by first | rfl | (simp; done) | (simp [*]; done)), ⟨by have := X0.out; omega⟩, ⟨by have := XK.out; omega⟩, _, HF, HSN⟩
          · have hglue : glue (prv l1 x) (rd_T46 l1 x) = false := by rw [hprv]; show (isS _ 40 || (isS _ 41 || isS _ 44)) = false; rw [Bool.eq_false_iff.2 h1, Bool.eq_false_iff.2 h2]; rfl
            have S2 := Aside0.mk ((sign_two (rd_T46 l1 x)).trans (congrArg some (Bool.eq_false_iff.2 h2)))
            clear h1 h2 hprv
            have LN1 := Aside0.mk (ln1 : s.length + 1 ≤ 140737488355328)
            have LN2 : Aside0 (((s ++ [32])).length + (str (sp (rd_T46 l1 x))).size ≤ 140737488355328) := ⟨by rw [Pu.size_str]; have h := congrArg List.length HS.out; have h2 := HL.out; rw [hat, hglue] at h; simp at h h2 ⊢; omega⟩
            have HSN : Aside0 (((s ++ [32]) ++ (str (sp (rd_T46 l1 x))).data.toList) ++ atomsL (prv l1 (x + 1)) (l1.drop (x + 1).toNat) = lst a0 ++ atomsL none l1) := ⟨by have h := HS.out; rw [hat, hglue] at h; rw [← h]; simp [str]⟩
            clear hat hglue ln1
            go_wp2_with (first
              | ((with_reducible refine gate_dst (N := 5) rfl ?_); (try (refine gate_guard (by rfl) ?_; dsimp only)); refine box_event ?hg (N := 5) ?hd (cs := #[.int .i64 0, .string (⟨#[]⟩ : ByteArray), .int .i64 0, .int .i64 0]) (t := 50) ?hr ?_; (case hd => rfl); (case hg => rfl); (case hr => first | (go_simp; done) | (go_simp; rfl)); intro g5 hg w5 hbox hb; have HB5 := Aside0.mk hb; have GE5 := Aside0.mk (Nat.le_of_eq hg.symm); have NE5 := Aside0.mk ((by rw [hg]; exact Nat.ne_of_gt (IsB.lt HF.out.ib)) : g5 ≠ g3); have BK5 := Aside0.mk hbox; have hcz0 : w5.cell? ⟨g5, 0, none⟩ = some (.int .i64 0) := (blk_cell hbox 0).trans rfl; have hfz0 := blk_frozen hbox 0; have hcz1 : w5.cell? ⟨g5, 1, none⟩ = some (.string (⟨#[]⟩ : ByteArray)) := (blk_cell hbox 1).trans rfl; have hfz1 := blk_frozen hbox 1; have hcz2 : w5.cell? ⟨g5, 2, none⟩ = some (.int .i64 0) := (blk_cell hbox 2).trans rfl; have hfz2 := blk_frozen hbox 2; have hcz3 : w5.cell? ⟨g5, 3, none⟩ = some (.int .i64 0) := (blk_cell hbox 3).trans rfl; have hfz3 := blk_frozen hbox 3; clear hbox hb hg)
              | ((with_reducible refine gate_store (t := 50) (p := 5) rfl ?_); refine store_event (t := 50) (p := 5) (v := ?vo6) (w1 := ((((w5.setCell ⟨g5, 0, none⟩ (.int .i64 (rd_T46 l1 x).f0)).setCell ⟨g5, 1, none⟩ (.string (rd_T46 l1 x).f1)).setCell ⟨g5, 2, none⟩ (.int .i64 (rd_T46 l1 x).f2)).setCell ⟨g5, 3, none⟩ (.int .i64 (rd_T46 l1 x).f3))) ?hg ?ho ?hn ?hr ?_; (case ho => rfl); (case hg => rfl); (case hn => rfl); (case hr => first | (go_simp; done) | (go_simp; rfl)); intro w6 hw; have n0_ := Aside0.mk (FI.below HF.out (w2 := w6) (by rw [hw]; exact below_set (below_set (below_set (below_set HB5.out GE5.out) GE5.out) GE5.out) GE5.out)); have n1_ : Aside0 (w6.heap[g5]? = some (.cells #[.int .i64 (rd_T46 l1 x).f0, .string (rd_T46 l1 x).f1, .int .i64 (rd_T46 l1 x).f2, .int .i64 (rd_T46 l1 x).f3] 50 (0, 0))) := ⟨by rw [hw]; refine blk_put (cs := #[.int .i64 (rd_T46 l1 x).f0, .string (rd_T46 l1 x).f1, .int .i64 (rd_T46 l1 x).f2, .int .i64 0]) ?_ 3 _ rfl; refine blk_put (cs := #[.int .i64 (rd_T46 l1 x).f0, .string (rd_T46 l1 x).f1, .int .i64 0, .int .i64 0]) ?_ 2 _ rfl; refine blk_put (cs := #[.int .i64 (rd_T46 l1 x).f0, .string (⟨#[]⟩ : ByteArray), .int .i64 0, .int .i64 0]) ?_ 1 _ rfl; refine blk_put (cs := #[.int .i64 0, .string (⟨#[]⟩ : ByteArray), .int .i64 0, .int .i64 0]) ?_ 0 _ rfl; exact BK5.out⟩; clear HF BK5 HB5 hw; (try clear hcz0 hcz1 hcz2 hcz3 hfz0 hfz1 hfz2 hfz3); (try clear hx0 hx1 hx2 hx3); have HF := n0_; have BK5 := n1_; clear n0_ n1_; have hl0 : w6.cell? ⟨g5, 0, none⟩ = some (.int .i64 (rd_T46 l1 x).f0) := (blk_cell BK5.out 0).trans rfl; have hl1 : w6.cell? ⟨g5, 1, none⟩ = some (.string (rd_T46 l1 x).f1) := (blk_cell BK5.out 1).trans rfl; have hl2 : w6.cell? ⟨g5, 2, none⟩ = some (.int .i64 (rd_T46 l1 x).f2) := (blk_cell BK5.out 2).trans rfl; have hl3 : w6.cell? ⟨g5, 3, none⟩ = some (.int .i64 (rd_T46 l1 x).f3) := (blk_cell BK5.out 3).trans rfl; have q1_ : w6.cell? ⟨g1, 1, none⟩ = some (.slice (some ad) l1.length c1) := (blk_cell HF.out.k1 1).trans rfl; have hy0 := (HF.out.hB.cell (World.block_lt_of_cell? w _ HY0.out)).trans HY0.out; have hy1 := (HF.out.hB.cell (World.block_lt_of_cell? w _ HY1.out)).trans HY1.out; have hy2 := (HF.out.hB.cell (World.block_lt_of_cell? w _ HY2.out)).trans HY2.out; have hy3 := (HF.out.hB.cell (World.block_lt_of_cell? w _ HY3.out)).trans HY3.out)
              | ((with_reducible refine gate_callee (f := 42) rfl ?_); (with_reducible refine gate_dst (N := 28) rfl ?_); (try (refine gate_guard (by rfl) ?_; dsimp only)); refine goesL_ (some 28) rfl rfl Tryz.func42 (by kernel_rfl) rfl #[.agg #[.int .i64 (rd_T46 l1 (x - 1)).f0, .string (rd_T46 l1 (x - 1)).f1, .int .i64 (rd_T46 l1 (x - 1)).f2, .int .i64 (rd_T46 l1 (x - 1)).f3], .string (⟨#[40]⟩ : ByteArray)] rfl (by (try simp only [List.map_toArray, List.map_cons, List.map_nil]); first | done | rfl) ?_; (with_reducible refine (printer_sign.calls _ _ _ _ _ false _ S1.out).mono ?_); rintro e w7 ⟨rfl, hb⟩; refine ⟨_, rfl, ?_⟩; have n0_ := Aside0.mk (FI.below HF.out hb); have n1_ := Aside0.mk (blk_below BK5.out hb); clear HF BK5; (try clear hl0 hl1 hl2 hl3); (try clear hy0 hy1 hy2 hy3 q1_); have HF := n0_; have BK5 := n1_; clear n0_ n1_ hb; have hl0 : w7.cell? ⟨g5, 0, none⟩ = some (.int .i64 (rd_T46 l1 x).f0) := (blk_cell BK5.out 0).trans rfl; have hl1 : w7.cell? ⟨g5, 1, none⟩ = some (.string (rd_T46 l1 x).f1) := (blk_cell BK5.out 1).trans rfl; have hl2 : w7.cell? ⟨g5, 2, none⟩ = some (.int .i64 (rd_T46 l1 x).f2) := (blk_cell BK5.out 2).trans rfl; have hl3 : w7.cell? ⟨g5, 3, none⟩ = some (.int .i64 (rd_T46 l1 x).f3) := (blk_cell BK5.out 3).trans rfl)
              | ((with_reducible refine gate_callee (f := 42) rfl ?_); (with_reducible refine gate_dst (N := 31) rfl ?_); (try (refine gate_guard (by rfl) ?_; dsimp only)); refine goesL_ (some 31) rfl rfl Tryz.func42 (by kernel_rfl) rfl #[.agg #[.int .i64 (rd_T46 l1 x).f0, .string (rd_T46 l1 x).f1, .int .i64 (rd_T46 l1 x).f2, .int .i64 (rd_T46 l1 x).f3], .string (⟨#[41, 44]⟩ : ByteArray)] rfl (by (try simp only [List.map_toArray, List.map_cons, List.map_nil]); first | done | rfl) ?_; (with_reducible refine (printer_sign.calls _ _ _ _ _ false _ S2.out).mono ?_); rintro e w8 ⟨rfl, hb⟩; refine ⟨_, rfl, ?_⟩; have n0_ := Aside0.mk (FI.below HF.out hb); have n1_ := Aside0.mk (blk_below BK5.out hb); clear HF BK5; (try clear hl0 hl1 hl2 hl3); (try clear hy0 hy1 hy2 hy3 q1_); have HF := n0_; have BK5 := n1_; clear n0_ n1_ hb; have hl0 : w8.cell? ⟨g5, 0, none⟩ = some (.int .i64 (rd_T46 l1 x).f0) := (blk_cell BK5.out 0).trans rfl; have hl1 : w8.cell? ⟨g5, 1, none⟩ = some (.string (rd_T46 l1 x).f1) := (blk_cell BK5.out 1).trans rfl; have hl2 : w8.cell? ⟨g5, 2, none⟩ = some (.int .i64 (rd_T46 l1 x).f2) := (blk_cell BK5.out 2).trans rfl; have hl3 : w8.cell? ⟨g5, 3, none⟩ = some (.int .i64 (rd_T46 l1 x).f3) := (blk_cell BK5.out 3).trans rfl)
              | ((with_reducible refine gate_callee (f := 43) rfl ?_); (with_reducible refine gate_dst (N := 35) rfl ?_); (try (refine gate_guard (by rfl) ?_; dsimp only)); refine goesL_ (some 35) rfl rfl Tryz.func43 (by kernel_rfl) rfl #[.pointer (some ⟨g3, 0, none⟩), .int .u8 32] rfl (by (try simp only [List.map_toArray, List.map_cons, List.map_nil]); first | done | rfl) ?_; (with_reducible refine (WriteByte_32 w.heap.size g3 s _ HF.out.ib LN1.out HF.out.size).mono ?_); rintro e w9 ⟨rfl, m1, m2, m3⟩; refine ⟨_, rfl, ?_⟩; have n0_ := Aside0.mk (FI.step HF.out m1 m2 m3); have n1_ := Aside0.mk (m3 _ _ _ _ (by decide) NE5.out BK5.out); clear HF BK5; (try clear hl0 hl1 hl2 hl3); (try clear hy0 hy1 hy2 hy3 q1_); have HF := n0_; have BK5 := n1_; clear n0_ n1_ m1 m2 m3; have hl0 : w9.cell? ⟨g5, 0, none⟩ = some (.int .i64 (rd_T46 l1 x).f0) := (blk_cell BK5.out 0).trans rfl; have hl1 : w9.cell? ⟨g5, 1, none⟩ = some (.string (rd_T46 l1 x).f1) := (blk_cell BK5.out 1).trans rfl; have hl2 : w9.cell? ⟨g5, 2, none⟩ = some (.int .i64 (rd_T46 l1 x).f2) := (blk_cell BK5.out 2).trans rfl; have hl3 : w9.cell? ⟨g5, 3, none⟩ = some (.int .i64 (rd_T46 l1 x).f3) := (blk_cell BK5.out 3).trans rfl)
              | ((with_reducible refine gate_callee (f := 44) rfl ?_); (with_reducible refine gate_dst (N := 38) rfl ?_); (try (refine gate_guard (by rfl) ?_; dsimp only)); refine goesL_ (some 38) rfl rfl Tryz.func44 (by kernel_rfl) rfl #[.agg #[.int .i64 (rd_T46 l1 x).f0, .string (rd_T46 l1 x).f1, .int .i64 (rd_T46 l1 x).f2, .int .i64 (rd_T46 l1 x).f3]] rfl (by (try simp only [List.map_toArray, List.map_cons, List.map_nil]); first | done | rfl) ?_; (with_reducible refine (lexer_Spell.calls k _ _ _ _ (str (sp (rd_T46 l1 x))) 0 _ (HG.out.below HF.out.hB) HT.out).mono ?_); rintro e w10 ⟨rfl, hb⟩; refine ⟨_, rfl, ?_⟩; have n0_ := Aside0.mk (FI.below HF.out hb); have n1_ := Aside0.mk (blk_below BK5.out hb); clear HF BK5; (try clear hl0 hl1 hl2 hl3); (try clear hy0 hy1 hy2 hy3 q1_); have HF := n0_; have BK5 := n1_; clear n0_ n1_ hb)
              | ((with_reducible refine gate_callee (f := 41) rfl ?_); (with_reducible refine gate_dst (N := 42) rfl ?_); (try (refine gate_guard (by rfl) ?_; dsimp only)); refine goesL_ (some 42) rfl rfl Tryz.func41 (by kernel_rfl) rfl #[.pointer (some ⟨g3, 0, none⟩), .string (str (sp (rd_T46 l1 x)))] rfl (by (try simp only [List.map_toArray, List.map_cons, List.map_nil]); first | done | rfl) ?_; (with_reducible refine (WriteString_s w.heap.size g3 (s ++ [32]) (str (sp (rd_T46 l1 x))) _ HF.out.ib LN2.out HF.out.size).mono ?_); rintro e w11 ⟨rfl, m1, m2, m3⟩; refine ⟨_, rfl, ?_⟩; have n0_ := Aside0.mk (FI.step HF.out m1 m2 m3); have n1_ := Aside0.mk (m3 _ _ _ _ (by decide) NE5.out BK5.out); clear HF BK5; (try clear hl0 hl1 hl2 hl3); (try clear hy0 hy1 hy2 hy3 q1_); have HF := n0_; have BK5 := n1_; clear n0_ n1_ m1 m2 m3))
            go_roundg k1
            case measure => omega
            case rel => exact ⟨x + 1, (by first | rfl | (simp; done) | (simp [*]; done)), ⟨by have := X0.out; omega⟩, ⟨by have := XK.out; omega⟩, _, HF, HSN⟩
    · have c13b : decide (x < (l1.length : Int)) = false := decide_eq_false c13
      have hs : s = lst a0 ++ atomsL none l1 := by
        have h := HS.out
        rw [List.drop_of_length_le (by have := X0.out; omega)] at h
        simpa [atomsL] using h
      clear c13 HS
      obtain ⟨tot, htot⟩ : ∃ t, t = lst a0 ++ atomsL none l1 := ⟨_, rfl⟩
      have HT := Aside0.mk htot.symm
      rw [← htot] at hs
      subst hs
      have z1 : (9223372036854775807 < s.length + 2) = False := eq_false (by have := HL.out; rw [HT.out] at this; omega)
      have z2 : (s.length + 2 ≤ 9223372036854775807) = True := eq_true (by have := HL.out; rw [HT.out] at this; omega)
      have z3 : (9223372036854775807 < s.length + 1) = False := eq_false (by have := HL.out; rw [HT.out] at this; omega)
      have z4 : (s.length + 1 ≤ 9223372036854775807) = True := eq_true (by have := HL.out; rw [HT.out] at this; omega)
      clear htot
      cases b2 with
      | true =>
        have q2 : wr.cell? ⟨g1, 2, none⟩ = some (.bool true) := (blk_cell HF.out.k1 2).trans rfl
        go_wp2_with (first
          | ((with_reducible refine gate_callee (f := 30) rfl ?_); (with_reducible refine gate_dst (N := 46) rfl ?_); refine goesL_ (some 46) rfl rfl Tryz.func30 (by kernel_rfl) rfl #[.pointer (some ⟨g3, 0, none⟩)] rfl (by (try simp only [List.map_toArray, List.map_cons, List.map_nil]); first | done | rfl) ?_; (with_reducible refine (String_a w.heap.size g3 _ _ HF.out.ib HF.out.size).mono ?_); rintro e w4 ⟨rfl, hb⟩; refine ⟨_, rfl, ?_⟩; have HB := Aside0.mk (HF.out.hB.trans hb); clear hb))
        go_ret
        exact ⟨by show Ending.returned (.string (str s ++ (⟨#[32, 123]⟩ : ByteArray))) = _; rw [← List.append_assoc, HT.out]; exact congrArg (fun v => Ending.returned (.string v)) (str_app s [32, 123]), HB.out⟩
      | false =>
        have q2 : wr.cell? ⟨g1, 2, none⟩ = some (.bool false) := (blk_cell HF.out.k1 2).trans rfl
        go_wp2_with (first
          | ((with_reducible refine gate_callee (f := 30) rfl ?_); (with_reducible refine gate_dst (N := 48) rfl ?_); refine goesL_ (some 48) rfl rfl Tryz.func30 (by kernel_rfl) rfl #[.pointer (some ⟨g3, 0, none⟩)] rfl (by (try simp only [List.map_toArray, List.map_cons, List.map_nil]); first | done | rfl) ?_; (with_reducible refine (String_a w.heap.size g3 _ _ HF.out.ib HF.out.size).mono ?_); rintro e w4 ⟨rfl, hb⟩; refine ⟨_, rfl, ?_⟩; have HB := Aside0.mk (HF.out.hB.trans hb); clear hb))
        go_ret
        exact ⟨by show Ending.returned (.string (str s ++ (⟨#[59]⟩ : ByteArray))) = _; rw [← List.append_assoc, HT.out]; exact congrArg (fun v => Ending.returned (.string v)) (str_app s [59]), HB.out⟩
end Go.Proofs.YtkifdadhojbohaaGreatDoor.Pr
namespace Go.Proofs.YtkifdadhojbohaaGreatDoor
open Go.RowKit Go.Proofs.YtkifdadhojbohaaGreatDoorW.PrintWords Go.Proofs.YtkifdadhojbohaaGreatDoorW.PrintLast Go.Proofs.YtkifdadhojbohaaGreatDoorW.PrintMore Go.Proofs
set_option maxHeartbeats 2000000 in
theorem write_s (B b g3 g5 : Nat) (front s : ByteArray) (l : List UInt8) (w : World) (h : IsB B b l w) (h3 : w.heap[g3]? = some (.cells #[.pointer (some ⟨b, 0, none⟩)] 52 (0, 0))) (h5 : w.heap[g5]? = some (.cells #[.string front] 9 (0, 0)))
    (hlen : l.length + (front.size + s.size + 1) ≤ 140737488355328) (hBw : B ≤ w.heap.size) :
    Calls Tryz.prog 48 #[.string s, .pointer (some ⟨g3, 0, none⟩), .pointer (some ⟨g5, 0, none⟩)] w fun e w' => e = .returned (.tuple #[]) ∧ IsB B b (l ++ ((front ++ s) ++ (⟨#[10]⟩ : ByteArray)).data.toList) w' ∧ Below B w w' ∧ FrameT b w w' := by
  have c3 : w.cell? ⟨g3, 0, none⟩ = some (.pointer (some ⟨b, 0, none⟩)) := (blk_cell h3 0).trans rfl
  have c5 : w.cell? ⟨g5, 0, none⟩ = some (.string front) := (blk_cell h5 0).trans rfl
  have z1 : front.size + s.size ≤ 9223372036854775807 := by omega
  have z0 : (front ++ s).size = front.size + s.size := ByteArray.size_append
  have z2 : (front ++ s).size + 1 ≤ 9223372036854775807 := by omega
  have zz : ((front ++ s) ++ (⟨#[10]⟩ : ByteArray)).size = front.size + s.size + 1 := by rw [ByteArray.size_append, z0]; rfl
  have z1b : decide (front.size + s.size ≤ 9223372036854775807) = true := decide_eq_true z1
  have z2b : decide ((front ++ s).size + 1 ≤ 9223372036854775807) = true := decide_eq_true z2
  go_enter Tryz.func48, Tryz.ntmps48
  go_wp2_with (first | ((with_reducible refine gate_callee (f := 41) rfl ?_); refine goesL_ (some 9) rfl rfl Tryz.func41 (by kernel_rfl) rfl #[.pointer (some ⟨b, 0, none⟩), .string ((front ++ s) ++ (⟨#[10]⟩ : ByteArray))] rfl (by (try simp only [List.map_toArray, List.map_cons, List.map_nil]); first | done | rfl) ?_; (with_reducible refine (WriteString_s B b l _ _ h (by rw [zz]; exact hlen) hBw).mono ?_); rintro e w1 ⟨rfl, k1, k2, k3⟩; refine ⟨_, rfl, ?_⟩))
  first | go_end0 | ((try simp only [Exit.inBlock, Exit.then]); refine bodyPost_ret (results_none rfl _ _ _) rfl ?_)
  exact ⟨rfl, k1, k2, k3⟩
end Go.Proofs.YtkifdadhojbohaaGreatDoor
namespace Go.Proofs.YtkifdadhojbohaaGreatDoor.Pr
open Go.Proofs.YtkifdadhojbohaaGreatDoor Go.Shelf Go.Proofs
open Go.RowKit Go.Proofs.YtkifdadhojbohaaGreatDoorW.PrintWords Go.Proofs.YtkifdadhojbohaaGreatDoorW.PrintLast Go.Proofs.YtkifdadhojbohaaGreatDoorW.PrintMore
open Go.Proofs.YtkifdadhojbohaaGreatDoor.Pu (isS sp glue atomsL firstL srcL str SpA SpG lst szL AllC indL len_le)
set_option linter.unusedVariables false
set_option linter.unusedSimpArgs false
structure FP (w0 w : World) (b g3 g5 : Nat) (front : ByteArray) (s : List UInt8) (w' : World) : Prop where
  hB : Below w0.heap.size w0 w'
  ib : IsB w0.heap.size b s w'
  k3 : w'.heap[g3]? = some (.cells #[.pointer (some ⟨b, 0, none⟩)] 52 (0, 0))
  k5 : w'.heap[g5]? = some (.cells #[.string front] 9 (0, 0))
  n3 : g3 ≠ b
  n5 : g5 ≠ b
  fr : FrameT b w w'
  hQ : Below w0.heap.size w w'
theorem FP.below {w0 w : World} {b g3 g5 : Nat} {front : ByteArray} {s : List UInt8} {w1 w2 : World} (h : FP w0 w b g3 g5 front s w1) (hb : Below w1.heap.size w1 w2) : FP w0 w b g3 g5 front s w2 :=
  ⟨below_step h.hB hb, IsB.below h.ib hb, blk_below h.k3 hb, blk_below h.k5 hb, h.n3, h.n5, h.fr.trans (FrameT.below hb), below_then h.hQ (below_size h.hB) hb⟩
theorem FP.step {w0 w : World} {b g3 g5 : Nat} {front : ByteArray} {s s' : List UInt8} {w1 w2 : World} (h : FP w0 w b g3 g5 front s w1) (m1 : IsB w0.heap.size b s' w2) (m2 : Below w0.heap.size w1 w2) (m3 : FrameT b w1 w2) : FP w0 w b g3 g5 front s' w2 :=
  ⟨h.hB.trans m2, m1, m3 g3 _ _ _ (by decide) h.n3 h.k3, m3 g5 _ _ _ (by decide) h.n5 h.k5, h.n3, h.n5, h.fr.trans m3, h.hQ.trans m2⟩
theorem mem_sz {c : S41} : ∀ l : List S41, c ∈ l → 1 + c.f1.length + szL c.f3 ≤ szL l
  | [], h => by cases h
  | d :: l, h => by
    rw [szL]
    rcases List.mem_cons.1 h with rfl | h
    · omega
    · have := mem_sz l h
      omega
theorem mem_all {P : S41 → Prop} {c : S41} {l : List S41} (h : AllC P l) (hc : c ∈ l) : P c ∧ AllC P c.f3 := by
  induction h with
  | nil => cases hc
  | cons d l h1 h2 h3 _ ih3 =>
    rcases List.mem_cons.1 hc with rfl | hc
    · exact ⟨h1, h2⟩
    · exact ih3 hc
theorem rd_mem41 (l : List S41) (x : Int) (h0 : 0 ≤ x) (h1 : x < l.length) : rd_T41 l x ∈ l := by
  unfold rd_T41
  have hn : x.toNat < l.length := by omega
  rw [List.getD_eq_getElem?_getD, List.getElem?_eq_getElem hn]
  exact List.getElem_mem hn
theorem src_at (n : Nat) (l : List S41) (x : Int) (h0 : 0 ≤ x) (h1 : x < l.length) :
    srcL n (l.drop x.toNat) = List.replicate n 32 ++ (firstL (rd_T41 l x) ++ 10 :: ((if (rd_T41 l x).f2 = true then srcL (n + 2) (rd_T41 l x).f3 ++ (List.replicate n 32 ++ [125, 10]) else []) ++ srcL n (l.drop (x + 1).toNat))) := by
  obtain ⟨m, rfl⟩ : ∃ n : Nat, x = n := ⟨x.toNat, by omega⟩
  have hn : m < l.length := by omega
  have e1 : (↑m : Int).toNat = m := rfl
  have e2 : (↑m + 1 : Int).toNat = m + 1 := by omega
  have hr : rd_T41 l ↑m = l[m] := by unfold rd_T41; rw [e1, List.getD_eq_getElem?_getD, List.getElem?_eq_getElem hn]; rfl
  rw [e1, e2, hr, List.drop_eq_getElem_cons hn, srcL]
theorem first_c (k : Nat) (w : World) (hG : Gl w) (c : S41) (A1 : Option Addr) (c1 : Nat) (b2 : Bool) (A3 : Option Addr) (n3 c3 : Nat) (hb : c.f2 = b2) (hr : Kd.C k46 w A1 c.f1.length c.f1) (hc : c.f1.length ≤ c1) (hok : ∀ t ∈ c.f1, SpA k t) (hn : c.f1.length ≤ 70368744177664) (hlen : (firstL c).length ≤ 70368744177664) :
    Calls Tryz.prog 23 #[.agg #[.string c.f0, .slice A1 c.f1.length c1, .bool b2, .slice A3 n3 c3, .int .i64 c.f4]] w fun e w' => e = .returned (.string (str (firstL c))) ∧ Below w.heap.size w w' := by
  subst hb
  have e : firstL c = (lst c.f0 ++ atomsL none c.f1) ++ (if c.f2 = true then [32, 123] else [59]) := by unfold firstL; rw [List.append_assoc]
  rw [e]
  refine first_s k w hG c.f0 A1 c1 c.f1 c.f2 A3 n3 c3 c.f4 hr hc hok hn ?_
  rw [e, List.length_append] at hlen
  omega
theorem front_two {n : Nat} {front : ByteArray} (h : lst front = List.replicate n 32) : lst (front ++ (⟨#[32, 32]⟩ : ByteArray)) = List.replicate (n + 2) 32 := by
  have : lst (front ++ (⟨#[32, 32]⟩ : ByteArray)) = lst front ++ [32, 32] := by unfold lst; simp
  rw [this, h, show ([32, 32] : List UInt8) = List.replicate 2 32 from rfl, List.replicate_append_replicate]
theorem line_is {n : Nat} {front : ByteArray} (h : lst front = List.replicate n 32) (x : ByteArray) : ((front ++ x) ++ (⟨#[10]⟩ : ByteArray)).data.toList = List.replicate n 32 ++ (lst x ++ [10]) := by
  rw [← h]; unfold lst; simp
theorem print_s (w0 : World) (hG : Gl w0) (k : Nat) : ∀ N : Nat, ∀ l : List S41, szL l ≤ N → ∀ (w : World) (A : Option Addr) (c n : Nat) (s : List UInt8) (b : Nat) (front : ByteArray), Kd.C k41 w0 A l.length l → l.length ≤ c → AllC (fun c => ∀ t ∈ c.f1, SpA k t) l → szL l ≤ 70368744177664 → Below w0.heap.size w0 w → IsB w0.heap.size b s w → s.length + (srcL n l).length ≤ 70368744177664 → lst front = List.replicate n 32 →
    Calls Tryz.prog 28 #[.pointer (some ⟨b, 0, none⟩), .slice A l.length c, .string front] w fun e w' => e = .returned (.tuple #[]) ∧ IsB w0.heap.size b (s ++ srcL n l) w' ∧ Below w0.heap.size w w' ∧ FrameT b w w' := by
  intro N
  induction N using Nat.strongRecOn with
  | _ N ihN =>
  intro l hN w A c n s b front hr hc ho hz hb0 hib hlen hfr
  have hu41 := Tryz.underlying25
  have hmf : ∀ (fn : Fn) (first cap : Array Value) (w : World), (Instr.makeFunc fn first cap).run Tryz.prog w = .ok (.func fn first cap) w := fun _ _ _ _ => rfl
  have ih : Aside0 (∀ l' : List S41, szL l' < N → ∀ (w : World) (A : Option Addr) (c n : Nat) (s : List UInt8) (b : Nat) (front : ByteArray), Kd.C k41 w0 A l'.length l' → l'.length ≤ c → AllC (fun c => ∀ t ∈ c.f1, SpA k t) l' → szL l' ≤ 70368744177664 → Below w0.heap.size w0 w → IsB w0.heap.size b s w → s.length + (srcL n l').length ≤ 70368744177664 → lst front = List.replicate n 32 →
    Calls Tryz.prog 28 #[.pointer (some ⟨b, 0, none⟩), .slice A l'.length c, .string front] w fun e w' => e = .returned (.tuple #[]) ∧ IsB w0.heap.size b (s ++ srcL n l') w' ∧ Below w0.heap.size w w' ∧ FrameT b w w') := ⟨fun l' h => ihN (szL l') h l' (Nat.le_refl _)⟩
  clear ihN
  have HG := Aside0.mk hG
  have HR := Aside0.mk hr
  have HC := Aside0.mk hc
  have HO := Aside0.mk ho
  have HZ := Aside0.mk hz
  have HNN := Aside0.mk hN
  have HB := Aside0.mk hb0
  have HI := Aside0.mk hib
  have HW0 := Aside0.mk (below_size hb0)
  have HL := Aside0.mk hlen
  have HFR := Aside0.mk hfr
  have HQ := Aside0.mk (Below.refl w.heap.size w)
  clear hG hr hc ho hz hN hb0 hib hlen hfr
  go_enter Tryz.func28, Tryz.ntmps28
  go_wp2_with (first
    | ((with_reducible refine gate_dst (N := 3) rfl ?_); refine box_event ?hg (N := 3) ?hd (cs := #[.pointer (some ⟨b, 0, none⟩)]) (t := 52) ?hr ?_; (case hd => rfl); (case hg => rfl); (case hr => first | (go_simp; done) | (go_simp; rfl)); intro g3 hg w1 hbox hb; have K3 := Aside0.mk hbox; have N3 := Aside0.mk ((by rw [hg]; exact Nat.ne_of_gt (IsB.lt HI.out)) : g3 ≠ b); have n0_ := Aside0.mk (IsB.below HI.out hb); have n1_ := Aside0.mk (below_step HB.out hb); have n2_ := Aside0.mk (below_step HQ.out hb); clear HI HB HQ; have HI := n0_; have HB := n1_; have HQ := n2_; clear n0_ n1_ n2_ hg hbox hb)
    | ((with_reducible refine gate_dst (N := 5) rfl ?_); refine box_event ?hg (N := 5) ?hd (cs := #[.string front]) (t := 9) ?hr ?_; (case hd => rfl); (case hg => rfl); (case hr => first | (go_simp; done) | (go_simp; rfl)); intro g5 hg w2 hbox hb; have HF : Aside0 (FP w0 w b g3 g5 front s w2) := ⟨⟨below_step HB.out hb, IsB.below HI.out hb, blk_below K3.out hb, hbox, N3.out, (by rw [hg]; exact Nat.ne_of_gt (IsB.lt HI.out)), FrameT.below (below_step HQ.out hb), (below_step HQ.out hb).mono HW0.out⟩⟩; clear HI HB HQ K3 N3 hg hbox hb))
  go_loopg [12] l.length (fun kq v12 w' => ∃ x : Int, v12 = .int .i64 x ∧ Aside0 (0 ≤ x) ∧ Aside0 (x + kq = l.length) ∧ ∃ s1, Aside0 (FP w0 w b g3 g5 front s1 w') ∧ Aside0 (s1 ++ srcL n (l.drop x.toNat) = s ++ srcL n l))
  case atStart => exact ⟨0, rfl, ⟨Int.le_refl 0⟩, ⟨by omega⟩, _, HF, ⟨rfl⟩⟩
  case round =>
    clear HF
    obtain ⟨x, rfl, X0, XK, s1, HF, HS⟩ := hrel
    by_cases c13 : x < (l.length : Int)
    · have c13b : decide (x < (l.length : Int)) = true := decide_eq_true c13
      obtain ⟨k1, rfl⟩ : ∃ k', gk = k' + 1 := ⟨gk - 1, by have := XK.out; omega⟩
      have hat := src_at n l x X0.out c13
      have hmem := rd_mem41 l x X0.out c13
      have hsz := mem_sz l hmem
      have hall := mem_all HO.out hmem
      have hz := HZ.out
      have hw2 : wrap64 (x + 1) = x + 1 := wrap64_id (by have := X0.out; omega) (by have := len_le l; omega)
      have HO1 := Aside0.mk hall.1
      have HO3 := Aside0.mk hall.2
      have HN1 := Aside0.mk ((by omega) : (rd_T41 l x).f1.length ≤ 70368744177664)
      have HN3 := Aside0.mk ((by omega) : szL (rd_T41 l x).f3 ≤ 70368744177664)
      have HSZ := Aside0.mk ((by have := HNN.out; omega) : szL (rd_T41 l x).f3 < N)
      have hle : s1.length + (srcL n (l.drop x.toNat)).length ≤ 70368744177664 := by
        have h := congrArg List.length HS.out; have h2 := HL.out
        rw [List.length_append, List.length_append] at h
        omega
      have hfl : front.size = n := by rw [← Pu.lst_length, HFR.out, List.length_replicate]
      have LN0 : Aside0 ((firstL (rd_T41 l x)).length ≤ 70368744177664) := ⟨by rw [hat] at hle; simp only [List.length_append, List.length_cons] at hle; omega⟩
      have LN1 : Aside0 (s1.length + (front.size + (str (firstL (rd_T41 l x))).size + 1) ≤ 140737488355328) := ⟨by rw [Pu.size_str, hfl]; rw [hat] at hle; simp only [List.length_append, List.length_cons, List.length_replicate] at hle; omega⟩
      have HN8 := Aside0.mk ((by rw [hat] at hle; simp only [List.length_append, List.length_cons, List.length_replicate] at hle; omega) : front.size ≤ 70368744177664)
      obtain ⟨ad, A1, c1, A3, c3, eA, hx0, hx1, hx2, hx3, hx4, hl1, hi1, hl3, hi3⟩ := at_T41 HR.out x X0.out c13
      cases eA
      have HR1 := Aside0.mk hi1
      have HC1 := Aside0.mk hl1
      have HR3 := Aside0.mk hi3
      have HC3 := Aside0.mk hl3
      replace hx0 := (HF.out.hB.cell (World.block_lt_of_cell? w0 _ hx0)).trans hx0
      replace hx1 := (HF.out.hB.cell (World.block_lt_of_cell? w0 _ hx1)).trans hx1
      replace hx2 := (HF.out.hB.cell (World.block_lt_of_cell? w0 _ hx2)).trans hx2
      replace hx3 := (HF.out.hB.cell (World.block_lt_of_cell? w0 _ hx3)).trans hx3
      replace hx4 := (HF.out.hB.cell (World.block_lt_of_cell? w0 _ hx4)).trans hx4
      have p1 : (0 ≤ x) = True := eq_true X0.out
      have p2 : (x < (l.length : Int)) = True := eq_true c13
      have p3 : (9223372036854775807 < front.size + 2) = False := eq_false (by have := HN8.out; omega)
      have p4 : (front.size + 2 ≤ 9223372036854775807) = True := eq_true (by have := HN8.out; omega)
      clear hi1 hl1 hi3 hl3 hall hmem hsz hz c13
      by_cases hb2 : (rd_T41 l x).f2 = true
      · have HB2 := Aside0.mk hb2
        rw [hb2] at hx2
        rw [if_pos hb2] at hat
        have LN3 : Aside0 (((s1 ++ ((front ++ (str (firstL (rd_T41 l x)))) ++ (⟨#[10]⟩ : ByteArray)).data.toList)).length + (srcL (n + 2) (rd_T41 l x).f3).length ≤ 70368744177664) := ⟨by rw [line_is HFR.out]; rw [hat] at hle; simp only [List.length_append, List.length_cons, List.length_replicate, Pu.lst_str, List.length_nil] at hle ⊢; omega⟩
        have LN4 : Aside0 ((((s1 ++ ((front ++ (str (firstL (rd_T41 l x)))) ++ (⟨#[10]⟩ : ByteArray)).data.toList) ++ srcL (n + 2) (rd_T41 l x).f3)).length + (front.size + (⟨#[125]⟩ : ByteArray).size + 1) ≤ 140737488355328) := ⟨by rw [line_is HFR.out, hfl]; rw [hat] at hle; simp only [List.length_append, List.length_cons, List.length_replicate, Pu.lst_str, List.length_nil] at hle ⊢; show _ + (n + 1 + 1) ≤ _; omega⟩
        have HSN : Aside0 (((((s1 ++ ((front ++ (str (firstL (rd_T41 l x)))) ++ (⟨#[10]⟩ : ByteArray)).data.toList) ++ srcL (n + 2) (rd_T41 l x).f3)) ++ ((front ++ (⟨#[125]⟩ : ByteArray)) ++ (⟨#[10]⟩ : ByteArray)).data.toList) ++ srcL n (l.drop (x + 1).toNat) = s ++ srcL n l) := ⟨by have h := HS.out; rw [hat] at h; rw [← h, line_is HFR.out, line_is HFR.out, Pu.lst_str, show lst (⟨#[125]⟩ : ByteArray) = [125] from rfl]; simp⟩
        have HF2 := Aside0.mk (front_two HFR.out)
        clear hat hle hfl hb2
        go_wp2_with (first
          | ((with_reducible refine gate_dst (N := 8) rfl ?_); refine box_event ?hg (N := 8) ?hd (cs := #[.string (⟨#[]⟩ : ByteArray), .slice none 0 0, .bool false, .slice none 0 0, .int .i64 0]) (t := 25) ?hr ?_; (case hd => rfl); (case hg => rfl); (case hr => first | (go_simp; done) | (go_simp; rfl)); intro g8 hg w5 hbox hb; have HB5 := Aside0.mk hb; have GE8 := Aside0.mk (Nat.le_of_eq hg.symm); have NE8 := Aside0.mk ((by rw [hg]; exact Nat.ne_of_gt (IsB.lt HF.out.ib)) : g8 ≠ b); have BK8 := Aside0.mk hbox; have hcz0 : w5.cell? ⟨g8, 0, none⟩ = some (.string (⟨#[]⟩ : ByteArray)) := (blk_cell hbox 0).trans rfl; have hfz0 := blk_frozen hbox 0; have hcz1 : w5.cell? ⟨g8, 1, none⟩ = some (.slice none 0 0) := (blk_cell hbox 1).trans rfl; have hfz1 := blk_frozen hbox 1; have hcz2 : w5.cell? ⟨g8, 2, none⟩ = some (.bool false) := (blk_cell hbox 2).trans rfl; have hfz2 := blk_frozen hbox 2; have hcz3 : w5.cell? ⟨g8, 3, none⟩ = some (.slice none 0 0) := (blk_cell hbox 3).trans rfl; have hfz3 := blk_frozen hbox 3; have hcz4 : w5.cell? ⟨g8, 4, none⟩ = some (.int .i64 0) := (blk_cell hbox 4).trans rfl; have hfz4 := blk_frozen hbox 4; clear hbox hb hg)
          | ((with_reducible refine gate_store (t := 25) (p := 8) rfl ?_); refine store_event (t := 25) (p := 8) (v := ?vo6) (w1 := (((((w5.setCell ⟨g8, 0, none⟩ (.string (rd_T41 l x).f0)).setCell ⟨g8, 1, none⟩ (.slice A1 (rd_T41 l x).f1.length c1)).setCell ⟨g8, 2, none⟩ (.bool true)).setCell ⟨g8, 3, none⟩ (.slice A3 (rd_T41 l x).f3.length c3)).setCell ⟨g8, 4, none⟩ (.int .i64 (rd_T41 l x).f4))) ?hg ?ho ?hn ?hr ?_; (case ho => rfl); (case hg => rfl); (case hn => rfl); (case hr => first | (go_simp; done) | (go_simp; rfl)); intro w6 hw; have n0_ := Aside0.mk (FP.below HF.out (w2 := w6) (by rw [hw]; exact below_set (below_set (below_set (below_set (below_set HB5.out GE8.out) GE8.out) GE8.out) GE8.out) GE8.out)); have n1_ : Aside0 (w6.heap[g8]? = some (.cells #[.string (rd_T41 l x).f0, .slice A1 (rd_T41 l x).f1.length c1, .bool true, .slice A3 (rd_T41 l x).f3.length c3, .int .i64 (rd_T41 l x).f4] 25 (0, 0))) := ⟨by rw [hw]; refine blk_put (cs := #[.string (rd_T41 l x).f0, .slice A1 (rd_T41 l x).f1.length c1, .bool true, .slice A3 (rd_T41 l x).f3.length c3, .int .i64 0]) ?_ 4 _ rfl; refine blk_put (cs := #[.string (rd_T41 l x).f0, .slice A1 (rd_T41 l x).f1.length c1, .bool true, .slice none 0 0, .int .i64 0]) ?_ 3 _ rfl; refine blk_put (cs := #[.string (rd_T41 l x).f0, .slice A1 (rd_T41 l x).f1.length c1, .bool false, .slice none 0 0, .int .i64 0]) ?_ 2 _ rfl; refine blk_put (cs := #[.string (rd_T41 l x).f0, .slice none 0 0, .bool false, .slice none 0 0, .int .i64 0]) ?_ 1 _ rfl; refine blk_put (cs := #[.string (⟨#[]⟩ : ByteArray), .slice none 0 0, .bool false, .slice none 0 0, .int .i64 0]) ?_ 0 _ rfl; exact BK8.out⟩; clear HF BK8 HB5 hw; (try clear hcz0 hcz1 hcz2 hcz3 hcz4 hfz0 hfz1 hfz2 hfz3 hfz4); (try clear hx0 hx1 hx2 hx3 hx4); have HF := n0_; have BK8 := n1_; clear n0_ n1_; have hl0 : w6.cell? ⟨g8, 0, none⟩ = some (.string (rd_T41 l x).f0) := (blk_cell BK8.out 0).trans rfl; have hl1 : w6.cell? ⟨g8, 1, none⟩ = some (.slice A1 (rd_T41 l x).f1.length c1) := (blk_cell BK8.out 1).trans rfl; have hl2 : w6.cell? ⟨g8, 2, none⟩ = some (.bool true) := (blk_cell BK8.out 2).trans rfl; have hl3 : w6.cell? ⟨g8, 3, none⟩ = some (.slice A3 (rd_T41 l x).f3.length c3) := (blk_cell BK8.out 3).trans rfl; have hl4 : w6.cell? ⟨g8, 4, none⟩ = some (.int .i64 (rd_T41 l x).f4) := (blk_cell BK8.out 4).trans rfl)
          | ((with_reducible refine gate_callee (f := 23) rfl ?_); (with_reducible refine gate_dst (N := 18) rfl ?_); refine goesL_ (some 18) rfl rfl Tryz.func23 (by kernel_rfl) rfl #[.agg #[.string (rd_T41 l x).f0, .slice A1 (rd_T41 l x).f1.length c1, .bool true, .slice A3 (rd_T41 l x).f3.length c3, .int .i64 (rd_T41 l x).f4]] rfl (by (try simp only [List.map_toArray, List.map_cons, List.map_nil]); first | done | rfl) ?_; (with_reducible refine (first_c k _ (HG.out.below HF.out.hB) (rd_T41 l x) A1 c1 true A3 (rd_T41 l x).f3.length c3 HB2.out (Kd.C_below HR1.out HF.out.hB) HC1.out HO1.out HN1.out LN0.out).mono ?_); rintro e w7 ⟨rfl, hb⟩; refine ⟨_, rfl, ?_⟩; have n0_ := Aside0.mk (FP.below HF.out hb); have n1_ := Aside0.mk (blk_below BK8.out hb); clear HF BK8; (try clear hl0 hl1 hl2 hl3 hl4); (try clear h3_ h5_); have HF := n0_; have BK8 := n1_; clear n0_ n1_ hb; have hl0 : w7.cell? ⟨g8, 0, none⟩ = some (.string (rd_T41 l x).f0) := (blk_cell BK8.out 0).trans rfl; have hl1 : w7.cell? ⟨g8, 1, none⟩ = some (.slice A1 (rd_T41 l x).f1.length c1) := (blk_cell BK8.out 1).trans rfl; have hl2 : w7.cell? ⟨g8, 2, none⟩ = some (.bool true) := (blk_cell BK8.out 2).trans rfl; have hl3 : w7.cell? ⟨g8, 3, none⟩ = some (.slice A3 (rd_T41 l x).f3.length c3) := (blk_cell BK8.out 3).trans rfl; have hl4 : w7.cell? ⟨g8, 4, none⟩ = some (.int .i64 (rd_T41 l x).f4) := (blk_cell BK8.out 4).trans rfl; have h3_ : w7.cell? ⟨g3, 0, none⟩ = some (.pointer (some ⟨b, 0, none⟩)) := (blk_cell HF.out.k3 0).trans rfl; have h5_ : w7.cell? ⟨g5, 0, none⟩ = some (.string front) := (blk_cell HF.out.k5 0).trans rfl)
          | (go_at_call 48; (with_reducible refine (write_s w0.heap.size b g3 g5 front (str (firstL (rd_T41 l x))) s1 _ HF.out.ib HF.out.k3 HF.out.k5 LN1.out HF.out.hB.size).mono ?_); rintro e w8 ⟨rfl, m1, m2, m3⟩; have n0_ := Aside0.mk (FP.step HF.out m1 m2 m3); have n1_ := Aside0.mk (m3 _ _ _ _ (by decide) NE8.out BK8.out); clear HF BK8; (try clear hl0 hl1 hl2 hl3 hl4); (try clear h3_ h5_); have HF := n0_; have BK8 := n1_; clear n0_ n1_ m1 m2 m3; have hl0 : w8.cell? ⟨g8, 0, none⟩ = some (.string (rd_T41 l x).f0) := (blk_cell BK8.out 0).trans rfl; have hl1 : w8.cell? ⟨g8, 1, none⟩ = some (.slice A1 (rd_T41 l x).f1.length c1) := (blk_cell BK8.out 1).trans rfl; have hl2 : w8.cell? ⟨g8, 2, none⟩ = some (.bool true) := (blk_cell BK8.out 2).trans rfl; have hl3 : w8.cell? ⟨g8, 3, none⟩ = some (.slice A3 (rd_T41 l x).f3.length c3) := (blk_cell BK8.out 3).trans rfl; have hl4 : w8.cell? ⟨g8, 4, none⟩ = some (.int .i64 (rd_T41 l x).f4) := (blk_cell BK8.out 4).trans rfl; have h3_ : w8.cell? ⟨g3, 0, none⟩ = some (.pointer (some ⟨b, 0, none⟩)) := (blk_cell HF.out.k3 0).trans rfl; have h5_ : w8.cell? ⟨g5, 0, none⟩ = some (.string front) := (blk_cell HF.out.k5 0).trans rfl)
          | ((with_reducible refine gate_callee (f := 28) rfl ?_); (with_reducible refine gate_dst (N := 27) rfl ?_); refine goesL_ (some 27) rfl rfl Tryz.func28 (by kernel_rfl) rfl #[.pointer (some ⟨b, 0, none⟩), .slice A3 (rd_T41 l x).f3.length c3, .string (front ++ (⟨#[32, 32]⟩ : ByteArray))] rfl (by (try simp only [List.map_toArray, List.map_cons, List.map_nil]); first | done | rfl) ?_; (with_reducible refine (ih.out _ (HSZ.out) _ A3 c3 (n + 2) (s1 ++ ((front ++ (str (firstL (rd_T41 l x)))) ++ (⟨#[10]⟩ : ByteArray)).data.toList) b _ HR3.out HC3.out HO3.out HN3.out HF.out.hB HF.out.ib LN3.out HF2.out).mono ?_); rintro e w9 ⟨rfl, m1, m2, m3⟩; refine ⟨_, rfl, ?_⟩; have n0_ := Aside0.mk (FP.step HF.out m1 m2 m3); have n1_ := Aside0.mk (m3 _ _ _ _ (by decide) NE8.out BK8.out); clear HF BK8; (try clear hl0 hl1 hl2 hl3 hl4); (try clear h3_ h5_); have HF := n0_; have BK8 := n1_; clear n0_ n1_ m1 m2 m3; have hl0 : w9.cell? ⟨g8, 0, none⟩ = some (.string (rd_T41 l x).f0) := (blk_cell BK8.out 0).trans rfl; have hl1 : w9.cell? ⟨g8, 1, none⟩ = some (.slice A1 (rd_T41 l x).f1.length c1) := (blk_cell BK8.out 1).trans rfl; have hl2 : w9.cell? ⟨g8, 2, none⟩ = some (.bool true) := (blk_cell BK8.out 2).trans rfl; have hl3 : w9.cell? ⟨g8, 3, none⟩ = some (.slice A3 (rd_T41 l x).f3.length c3) := (blk_cell BK8.out 3).trans rfl; have hl4 : w9.cell? ⟨g8, 4, none⟩ = some (.int .i64 (rd_T41 l x).f4) := (blk_cell BK8.out 4).trans rfl; have h3_ : w9.cell? ⟨g3, 0, none⟩ = some (.pointer (some ⟨b, 0, none⟩)) := (blk_cell HF.out.k3 0).trans rfl; have h5_ : w9.cell? ⟨g5, 0, none⟩ = some (.string front) := (blk_cell HF.out.k5 0).trans rfl)
          | (go_at_call 48; (with_reducible refine (write_s w0.heap.size b g3 g5 front (⟨#[125]⟩ : ByteArray) ((s1 ++ ((front ++ (str (firstL (rd_T41 l x)))) ++ (⟨#[10]⟩ : ByteArray)).data.toList) ++ srcL (n + 2) (rd_T41 l x).f3) _ HF.out.ib HF.out.k3 HF.out.k5 LN4.out HF.out.hB.size).mono ?_); rintro e w10 ⟨rfl, m1, m2, m3⟩; have n0_ := Aside0.mk (FP.step HF.out m1 m2 m3); have n1_ := Aside0.mk (m3 _ _ _ _ (by decide) NE8.out BK8.out); clear HF BK8; (try clear hl0 hl1 hl2 hl3 hl4); (try clear h3_ h5_); have HF := n0_; have BK8 := n1_; clear n0_ n1_ m1 m2 m3; have hl0 : w10.cell? ⟨g8, 0, none⟩ = some (.string (rd_T41 l x).f0) := (blk_cell BK8.out 0).trans rfl; have hl1 : w10.cell? ⟨g8, 1, none⟩ = some (.slice A1 (rd_T41 l x).f1.length c1) := (blk_cell BK8.out 1).trans rfl; have hl2 : w10.cell? ⟨g8, 2, none⟩ = some (.bool true) := (blk_cell BK8.out 2).trans rfl; have hl3 : w10.cell? ⟨g8, 3, none⟩ = some (.slice A3 (rd_T41 l x).f3.length c3) := (blk_cell BK8.out 3).trans rfl; have hl4 : w10.cell? ⟨g8, 4, none⟩ = some (.int .i64 (rd_T41 l x).f4) := (blk_cell BK8.out 4).trans rfl; have h3_ : w10.cell? ⟨g3, 0, none⟩ = some (.pointer (some ⟨b, 0, none⟩)) := (blk_cell HF.out.k3 0).trans rfl; have h5_ : w10.cell? ⟨g5, 0, none⟩ = some (.string front) := (blk_cell HF.out.k5 0).trans rfl))
        go_roundg k1
        case measure => omega
        case rel => exact ⟨x + 1, (by first | rfl | (simp; done) | (simp [*]; done)), ⟨by have := X0.out; omega⟩, ⟨by have := XK.out; omega⟩, _, HF, HSN⟩
      · have HB2 := Aside0.mk (Bool.eq_false_iff.2 hb2)
        rw [HB2.out] at hx2
        rw [if_neg hb2] at hat
        have HSN : Aside0 (((s1 ++ ((front ++ (str (firstL (rd_T41 l x)))) ++ (⟨#[10]⟩ : ByteArray)).data.toList)) ++ srcL n (l.drop (x + 1).toNat) = s ++ srcL n l) := ⟨by have h := HS.out; rw [hat] at h; rw [← h, line_is HFR.out, Pu.lst_str]; simp⟩
        clear hat hle hfl hb2
        go_wp2_with (first
          | ((with_reducible refine gate_dst (N := 8) rfl ?_); refine box_event ?hg (N := 8) ?hd (cs := #[.string (⟨#[]⟩ : ByteArray), .slice none 0 0, .bool false, .slice none 0 0, .int .i64 0]) (t := 25) ?hr ?_; (case hd => rfl); (case hg => rfl); (case hr => first | (go_simp; done) | (go_simp; rfl)); intro g8 hg w5 hbox hb; have HB5 := Aside0.mk hb; have GE8 := Aside0.mk (Nat.le_of_eq hg.symm); have NE8 := Aside0.mk ((by rw [hg]; exact Nat.ne_of_gt (IsB.lt HF.out.ib)) : g8 ≠ b); have BK8 := Aside0.mk hbox; have hcz0 : w5.cell? ⟨g8, 0, none⟩ = some (.string (⟨#[]⟩ : ByteArray)) := (blk_cell hbox 0).trans rfl; have hfz0 := blk_frozen hbox 0; have hcz1 : w5.cell? ⟨g8, 1, none⟩ = some (.slice none 0 0) := (blk_cell hbox 1).trans rfl; have hfz1 := blk_frozen hbox 1; have hcz2 : w5.cell? ⟨g8, 2, none⟩ = some (.bool false) := (blk_cell hbox 2).trans rfl; have hfz2 := blk_frozen hbox 2; have hcz3 : w5.cell? ⟨g8, 3, none⟩ = some (.slice none 0 0) := (blk_cell hbox 3).trans rfl; have hfz3 := blk_frozen hbox 3; have hcz4 : w5.cell? ⟨g8, 4, none⟩ = some (.int .i64 0) := (blk_cell hbox 4).trans rfl; have hfz4 := blk_frozen hbox 4; clear hbox hb hg)
          | ((with_reducible refine gate_store (t := 25) (p := 8) rfl ?_); refine store_event (t := 25) (p := 8) (v := ?vo6) (w1 := (((((w5.setCell ⟨g8, 0, none⟩ (.string (rd_T41 l x).f0)).setCell ⟨g8, 1, none⟩ (.slice A1 (rd_T41 l x).f1.length c1)).setCell ⟨g8, 2, none⟩ (.bool false)).setCell ⟨g8, 3, none⟩ (.slice A3 (rd_T41 l x).f3.length c3)).setCell ⟨g8, 4, none⟩ (.int .i64 (rd_T41 l x).f4))) ?hg ?ho ?hn ?hr ?_; (case ho => rfl); (case hg => rfl); (case hn => rfl); (case hr => first | (go_simp; done) | (go_simp; rfl)); intro w6 hw; have n0_ := Aside0.mk (FP.below HF.out (w2 := w6) (by rw [hw]; exact below_set (below_set (below_set (below_set (below_set HB5.out GE8.out) GE8.out) GE8.out) GE8.out) GE8.out)); have n1_ : Aside0 (w6.heap[g8]? = some (.cells #[.string (rd_T41 l x).f0, .slice A1 (rd_T41 l x).f1.length c1, .bool false, .slice A3 (rd_T41 l x).f3.length c3, .int .i64 (rd_T41 l x).f4] 25 (0, 0))) := ⟨by rw [hw]; refine blk_put (cs := #[.string (rd_T41 l x).f0, .slice A1 (rd_T41 l x).f1.length c1, .bool false, .slice A3 (rd_T41 l x).f3.length c3, .int .i64 0]) ?_ 4 _ rfl; refine blk_put (cs := #[.string (rd_T41 l x).f0, .slice A1 (rd_T41 l x).f1.length c1, .bool false, .slice none 0 0, .int .i64 0]) ?_ 3 _ rfl; refine blk_put (cs := #[.string (rd_T41 l x).f0, .slice A1 (rd_T41 l x).f1.length c1, .bool false, .slice none 0 0, .int .i64 0]) ?_ 2 _ rfl; refine blk_put (cs := #[.string (rd_T41 l x).f0, .slice none 0 0, .bool false, .slice none 0 0, .int .i64 0]) ?_ 1 _ rfl; refine blk_put (cs := #[.string (⟨#[]⟩ : ByteArray), .slice none 0 0, .bool false, .slice none 0 0, .int .i64 0]) ?_ 0 _ rfl; exact BK8.out⟩; clear HF BK8 HB5 hw; (try clear hcz0 hcz1 hcz2 hcz3 hcz4 hfz0 hfz1 hfz2 hfz3 hfz4); (try clear hx0 hx1 hx2 hx3 hx4); have HF := n0_; have BK8 := n1_; clear n0_ n1_; have hl0 : w6.cell? ⟨g8, 0, none⟩ = some (.string (rd_T41 l x).f0) := (blk_cell BK8.out 0).trans rfl; have hl1 : w6.cell? ⟨g8, 1, none⟩ = some (.slice A1 (rd_T41 l x).f1.length c1) := (blk_cell BK8.out 1).trans rfl; have hl2 : w6.cell? ⟨g8, 2, none⟩ = some (.bool false) := (blk_cell BK8.out 2).trans rfl; have hl3 : w6.cell? ⟨g8, 3, none⟩ = some (.slice A3 (rd_T41 l x).f3.length c3) := (blk_cell BK8.out 3).trans rfl; have hl4 : w6.cell? ⟨g8, 4, none⟩ = some (.int .i64 (rd_T41 l x).f4) := (blk_cell BK8.out 4).trans rfl)
          | ((with_reducible refine gate_callee (f := 23) rfl ?_); (with_reducible refine gate_dst (N := 18) rfl ?_); refine goesL_ (some 18) rfl rfl Tryz.func23 (by kernel_rfl) rfl #[.agg #[.string (rd_T41 l x).f0, .slice A1 (rd_T41 l x).f1.length c1, .bool false, .slice A3 (rd_T41 l x).f3.length c3, .int .i64 (rd_T41 l x).f4]] rfl (by (try simp only [List.map_toArray, List.map_cons, List.map_nil]); first | done | rfl) ?_; (with_reducible refine (first_c k _ (HG.out.below HF.out.hB) (rd_T41 l x) A1 c1 false A3 (rd_T41 l x).f3.length c3 HB2.out (Kd.C_below HR1.out HF.out.hB) HC1.out HO1.out HN1.out LN0.out).mono ?_); rintro e w7 ⟨rfl, hb⟩; refine ⟨_, rfl, ?_⟩; have n0_ := Aside0.mk (FP.below HF.out hb); have n1_ := Aside0.mk (blk_below BK8.out hb); clear HF BK8; (try clear hl0 hl1 hl2 hl3 hl4); (try clear h3_ h5_); have HF := n0_; have BK8 := n1_; clear n0_ n1_ hb; have hl0 : w7.cell? ⟨g8, 0, none⟩ = some (.string (rd_T41 l x).f0) := (blk_cell BK8.out 0).trans rfl; have hl1 : w7.cell? ⟨g8, 1, none⟩ = some (.slice A1 (rd_T41 l x).f1.length c1) := (blk_cell BK8.out 1).trans rfl; have hl2 : w7.cell? ⟨g8, 2, none⟩ = some (.bool false) := (blk_cell BK8.out 2).trans rfl; have hl3 : w7.cell? ⟨g8, 3, none⟩ = some (.slice A3 (rd_T41 l x).f3.length c3) := (blk_cell BK8.out 3).trans rfl; have hl4 : w7.cell? ⟨g8, 4, none⟩ = some (.int .i64 (rd_T41 l x).f4) := (blk_cell BK8.out 4).trans rfl; have h3_ : w7.cell? ⟨g3, 0, none⟩ = some (.pointer (some ⟨b, 0, none⟩)) := (blk_cell HF.out.k3 0).trans rfl; have h5_ : w7.cell? ⟨g5, 0, none⟩ = some (.string front) := (blk_cell HF.out.k5 0).trans rfl)
          | (go_at_call 48; (with_reducible refine (write_s w0.heap.size b g3 g5 front (str (firstL (rd_T41 l x))) s1 _ HF.out.ib HF.out.k3 HF.out.k5 LN1.out HF.out.hB.size).mono ?_); rintro e w8 ⟨rfl, m1, m2, m3⟩; have n0_ := Aside0.mk (FP.step HF.out m1 m2 m3); have n1_ := Aside0.mk (m3 _ _ _ _ (by decide) NE8.out BK8.out); clear HF BK8; (try clear hl0 hl1 hl2 hl3 hl4); (try clear h3_ h5_); have HF := n0_; have BK8 := n1_; clear n0_ n1_ m1 m2 m3; have hl0 : w8.cell? ⟨g8, 0, none⟩ = some (.string (rd_T41 l x).f0) := (blk_cell BK8.out 0).trans rfl; have hl1 : w8.cell? ⟨g8, 1, none⟩ = some (.slice A1 (rd_T41 l x).f1.length c1) := (blk_cell BK8.out 1).trans rfl; have hl2 : w8.cell? ⟨g8, 2, none⟩ = some (.bool false) := (blk_cell BK8.out 2).trans rfl; have hl3 : w8.cell? ⟨g8, 3, none⟩ = some (.slice A3 (rd_T41 l x).f3.length c3) := (blk_cell BK8.out 3).trans rfl; have hl4 : w8.cell? ⟨g8, 4, none⟩ = some (.int .i64 (rd_T41 l x).f4) := (blk_cell BK8.out 4).trans rfl; have h3_ : w8.cell? ⟨g3, 0, none⟩ = some (.pointer (some ⟨b, 0, none⟩)) := (blk_cell HF.out.k3 0).trans rfl; have h5_ : w8.cell? ⟨g5, 0, none⟩ = some (.string front) := (blk_cell HF.out.k5 0).trans rfl))
        go_roundg k1
        case measure => omega
        case rel => exact ⟨x + 1, (by first | rfl | (simp; done) | (simp [*]; done)), ⟨by have := X0.out; omega⟩, ⟨by have := XK.out; omega⟩, _, HF, HSN⟩
    · have c13b : decide (x < (l.length : Int)) = false := decide_eq_false c13
      have hs : s1 = s ++ srcL n l := by
        have h := HS.out
        rw [List.drop_of_length_le (by have := X0.out; omega)] at h
        simpa [srcL] using h
      have HS1 := Aside0.mk hs
      clear c13 HS hs
      go_wp2
      first | go_end0 | ((try simp only [Exit.inBlock, Exit.then]); refine bodyPost_ret (results_none rfl _ _ _) rfl ?_)
      exact ⟨rfl, HS1.out ▸ HF.out.ib, HF.out.hQ, HF.out.fr⟩
end Go.Proofs.YtkifdadhojbohaaGreatDoor.Pr
namespace Go.Proofs.YtkifdadhojbohaaGreatDoor.Pr
open Go.Proofs.YtkifdadhojbohaaGreatDoor Go.Shelf Go.Proofs
open Go.RowKit Go.Proofs.YtkifdadhojbohaaGreatDoorW.PrintWords Go.Proofs.YtkifdadhojbohaaGreatDoorW.PrintLast Go.Proofs.YtkifdadhojbohaaGreatDoorW.PrintMore
open Go.Proofs.YtkifdadhojbohaaGreatDoor.Pu (srcL str SpA SpG lst szL AllC)
set_option linter.unusedVariables false
set_option linter.unusedSimpArgs false
theorem printer_Print.calls (k : Nat) (A0 : Option Addr) (c0 : Nat) (l0 : List (S41)) (r1 : ByteArray) (r2 : Int) (w : World) (hG : Gl w) (hr0 : Kd.C k41 w A0 l0.length l0) (hc0 : l0.length ≤ c0) (h : printer_Print.f k l0 = some (r1, r2)) :
    Calls Tryz.prog 11 #[.slice A0 l0.length c0] w fun e w' => e = .returned (.tuple #[.string r1, .int .i64 r2]) ∧ Below w.heap.size w w' := by
  have HG := Aside0.mk hG
  have HR := Aside0.mk hr0
  have HC := Aside0.mk hc0
  clear hG hr0 hc0
  unfold printer_Print.f at h
  obtain ⟨e, A10, h⟩ := Option.bind_eq_some_iff.mp h
  have A1 := Aside0.mk A10
  clear A10
  by_cases c1 : e = 0
  · rw [if_pos c1] at h
    subst c1
    by_cases hs : SpG k l0
    · rw [if_pos hs] at h
      have HS1 : Aside0 (AllC (fun c => ∀ t ∈ c.f1, SpA k t) l0) := ⟨hs.2.2⟩
      have HS2 : Aside0 (szL l0 ≤ 70368744177664) := ⟨hs.2.1⟩
      have HE : Aside0 (lst (⟨#[]⟩ : ByteArray) = List.replicate 0 32) := ⟨rfl⟩
      have LN : Aside0 (([] : List UInt8).length + (srcL 0 l0).length ≤ 70368744177664) := ⟨by rw [List.length_nil]; have := hs.1; omega⟩
      clear hs
      by_cases h6 : 65536 < (srcL 0 l0).length
      · rw [if_pos h6] at h
        cases h
        have z1 : decide ((((([] : List UInt8) ++ srcL 0 l0).length : Nat) : Int) > 65536) = true := decide_eq_true (by rw [List.nil_append]; omega)
        have z2 : decide ((65536 : Int) < ((([] : List UInt8) ++ srcL 0 l0).length : Nat)) = true := decide_eq_true (by rw [List.nil_append]; omega)
        have z3 : ((65536 : Int) < ((srcL 0 l0).length : Nat)) = True := eq_true (by omega)
        have z4 : (65536 < (srcL 0 l0).length) = True := eq_true h6
        clear h6
        go_enter Tryz.func11, Tryz.ntmps11
        go_wp2_with (first
          | ((with_reducible refine gate_callee (f := 22) rfl ?_); refine goesL_ (some 7) rfl rfl Tryz.func22 (by kernel_rfl) rfl #[.slice A0 l0.length c0] rfl (by (try simp only [List.map_toArray, List.map_cons, List.map_nil]); first | done | rfl) ?_; (with_reducible refine (parser_Check.calls k _ _ l0 _ _ HR.out HC.out A1.out).mono ?_); rintro e w1 ⟨rfl, hb⟩; refine ⟨_, rfl, ?_⟩; have HB := Aside0.mk hb; clear hb)
          | ((with_reducible refine gate_dst (N := 5) rfl ?_); refine box_event ?hg (N := 5) ?hd (cs := #[.pointer none, .slice none 0 0]) (t := 55) ?hr ?_; (case hd => rfl); (case hg => rfl); (case hr => first | (go_simp; done) | (go_simp; rfl)); intro b hg w2 hbox hb; have HI : Aside0 (IsB w.heap.size b [] w2) := ⟨Or.inl ⟨(by rw [hg]; exact below_size HB.out), .slice none 0 0, hbox, World.ownsRow_nil _ _ _ _, by simp [Value.ownBlock]⟩⟩; have n0_ := Aside0.mk (below_step HB.out hb); clear HB; have HB := n0_; clear n0_ hg hbox hb)
          | ((with_reducible refine gate_callee (f := 28) rfl ?_); refine goesL_ (some 12) rfl rfl Tryz.func28 (by kernel_rfl) rfl #[.pointer (some ⟨b, 0, none⟩), .slice A0 l0.length c0, .string (⟨#[]⟩ : ByteArray)] rfl (by (try simp only [List.map_toArray, List.map_cons, List.map_nil]); first | done | rfl) ?_; (with_reducible refine (print_s w HG.out k _ l0 (Nat.le_refl _) _ A0 c0 0 [] b (⟨#[]⟩ : ByteArray) HR.out HC.out HS1.out HS2.out HB.out HI.out LN.out HE.out).mono ?_); rintro e w3 ⟨rfl, m1, m2, m3⟩; refine ⟨_, rfl, ?_⟩; have n0_ := Aside0.mk (HB.out.trans m2); have n1_ := Aside0.mk m1; clear HB HI m1 m2 m3; have HB := n0_; have HI := n1_; clear n0_ n1_)
          | ((with_reducible refine gate_callee (f := 29) rfl ?_); refine goesL_ (some 13) rfl rfl Tryz.func29 (by kernel_rfl) rfl #[.pointer (some ⟨b, 0, none⟩)] rfl (by (try simp only [List.map_toArray, List.map_cons, List.map_nil]); first | done | rfl) ?_; (with_reducible refine (Len_s w.heap.size b ([] ++ srcL 0 l0) _ HI.out).mono ?_); rintro e w4 ⟨rfl, rfl⟩; refine ⟨_, rfl, ?_⟩))
        go_ret2
        exact ⟨rfl, HB.out⟩
      · rw [if_neg h6] at h
        cases h
        have z1 : decide ((((([] : List UInt8) ++ srcL 0 l0).length : Nat) : Int) > 65536) = false := decide_eq_false (by rw [List.nil_append]; omega)
        have z2 : decide ((65536 : Int) < ((([] : List UInt8) ++ srcL 0 l0).length : Nat)) = false := decide_eq_false (by rw [List.nil_append]; omega)
        have z3 : ((65536 : Int) < ((srcL 0 l0).length : Nat)) = False := eq_false (by omega)
        have z4 : (65536 < (srcL 0 l0).length) = False := eq_false h6
        clear h6
        go_enter Tryz.func11, Tryz.ntmps11
        go_wp2_with (first
          | ((with_reducible refine gate_callee (f := 22) rfl ?_); refine goesL_ (some 7) rfl rfl Tryz.func22 (by kernel_rfl) rfl #[.slice A0 l0.length c0] rfl (by (try simp only [List.map_toArray, List.map_cons, List.map_nil]); first | done | rfl) ?_; (with_reducible refine (parser_Check.calls k _ _ l0 _ _ HR.out HC.out A1.out).mono ?_); rintro e w1 ⟨rfl, hb⟩; refine ⟨_, rfl, ?_⟩; have HB := Aside0.mk hb; clear hb)
          | ((with_reducible refine gate_dst (N := 5) rfl ?_); refine box_event ?hg (N := 5) ?hd (cs := #[.pointer none, .slice none 0 0]) (t := 55) ?hr ?_; (case hd => rfl); (case hg => rfl); (case hr => first | (go_simp; done) | (go_simp; rfl)); intro b hg w2 hbox hb; have HI : Aside0 (IsB w.heap.size b [] w2) := ⟨Or.inl ⟨(by rw [hg]; exact below_size HB.out), .slice none 0 0, hbox, World.ownsRow_nil _ _ _ _, by simp [Value.ownBlock]⟩⟩; have n0_ := Aside0.mk (below_step HB.out hb); clear HB; have HB := n0_; clear n0_ hg hbox hb)
          | ((with_reducible refine gate_callee (f := 28) rfl ?_); refine goesL_ (some 12) rfl rfl Tryz.func28 (by kernel_rfl) rfl #[.pointer (some ⟨b, 0, none⟩), .slice A0 l0.length c0, .string (⟨#[]⟩ : ByteArray)] rfl (by (try simp only [List.map_toArray, List.map_cons, List.map_nil]); first | done | rfl) ?_; (with_reducible refine (print_s w HG.out k _ l0 (Nat.le_refl _) _ A0 c0 0 [] b (⟨#[]⟩ : ByteArray) HR.out HC.out HS1.out HS2.out HB.out HI.out LN.out HE.out).mono ?_); rintro e w3 ⟨rfl, m1, m2, m3⟩; refine ⟨_, rfl, ?_⟩; have n0_ := Aside0.mk (HB.out.trans m2); have n1_ := Aside0.mk m1; clear HB HI m1 m2 m3; have HB := n0_; have HI := n1_; clear n0_ n1_)
          | ((with_reducible refine gate_callee (f := 29) rfl ?_); refine goesL_ (some 13) rfl rfl Tryz.func29 (by kernel_rfl) rfl #[.pointer (some ⟨b, 0, none⟩)] rfl (by (try simp only [List.map_toArray, List.map_cons, List.map_nil]); first | done | rfl) ?_; (with_reducible refine (Len_s w.heap.size b ([] ++ srcL 0 l0) _ HI.out).mono ?_); rintro e w4 ⟨rfl, rfl⟩; refine ⟨_, rfl, ?_⟩)
          | ((with_reducible refine gate_callee (f := 30) rfl ?_); refine goesL_ (some 15) rfl rfl Tryz.func30 (by kernel_rfl) rfl #[.pointer (some ⟨b, 0, none⟩)] rfl (by (try simp only [List.map_toArray, List.map_cons, List.map_nil]); first | done | rfl) ?_; (with_reducible refine (String_a w.heap.size b ([] ++ srcL 0 l0) _ HI.out HB.out.size).mono ?_); rintro e w5 ⟨rfl, hb⟩; refine ⟨_, rfl, ?_⟩; have n0_ := Aside0.mk (HB.out.trans hb); clear HB hb; have HB := n0_; clear n0_))
        go_ret2
        exact ⟨rfl, HB.out⟩
    · rw [if_neg hs] at h
      cases h
  · rw [if_neg c1] at h
    cases h
    have c1b0 : (r2 == 0) = false := beq_eq_false_iff_ne.mpr c1
    have c1b1 : (r2 != 0) = true := bne_iff_ne.mpr c1
    go_enter Tryz.func11, Tryz.ntmps11
    go_wp2_with (first
      | ((with_reducible refine gate_callee (f := 22) rfl ?_); refine goesL_ (some 7) rfl rfl Tryz.func22 (by kernel_rfl) rfl #[.slice A0 l0.length c0] rfl (by (try simp only [List.map_toArray, List.map_cons, List.map_nil]); first | done | rfl) ?_; (with_reducible refine (parser_Check.calls k _ _ l0 _ _ HR.out HC.out A1.out).mono ?_); rintro e w1 ⟨rfl, hb⟩; refine ⟨_, rfl, ?_⟩; have HB := Aside0.mk hb; clear hb))
    go_ret2
    exact ⟨rfl, HB.out⟩
end Go.Proofs.YtkifdadhojbohaaGreatDoor.Pr
