/- Joined out of the texts of this proof that bear the names Pr0: what each shows stands over it there. -/
import Derived.Test.YtkifdadhojbohaaGreatDoorEW1
import Derived.Test.YtkifdadhojbohaaGreatDoorProg
import Derived.Below
import Derived.Deep.Draws
import Derived.Deep.AppendLies
import Derived.Maps.AppendAt
import Derived.OwnWalk
import Derived.Laws.BytesArg
import Derived.Laws.MakeOwn
import Derived.Laws.OwnMore
import Derived.Deep.OwnRows
import Derived.Tactics
import Derived.Lib.ConvBytes
import Derived.Laws.Slices
import Derived.WalkKit
import Derived.KernelRfl
import Derived.RowKit3
import Derived.Deep.LoopGhost
import Derived.Deep.QuietTactic
import Derived.BigQuiet
import Derived.WideLaws
import Derived.Deep.DeepCutAuto
import Derived.Deep.CutBlock
import Derived.Deep.RegionHeld3
import Derived.Laws.Rows
import Derived.Lib.AppendStr
import Derived.ArgAppend
import Derived.Laws.IdiomCopy
import Derived.OrdersHeld
import Derived.Laws.BitsLemmas
import Derived.RowKit
set_option linter.unusedVariables false
set_option linter.unusedSimpArgs false
set_option maxHeartbeats 8000000
set_option maxRecDepth 100000
namespace Go.Proofs.YtkifdadhojbohaaGreatDoor.Pr
open Go.Proofs.YtkifdadhojbohaaGreatDoor
open Go.RowKit Go.Proofs.YtkifdadhojbohaaGreatDoorW.PrintWords Go.Proofs.YtkifdadhojbohaaGreatDoorW.PrintLast Go.Proofs.YtkifdadhojbohaaGreatDoorW.PrintMore
attribute [local go_sem] fU fQ gL gK eT eQ fT fP
def errW : Option Int → Value
  | none => .nilIface
  | some c => .iface 0 (.int .i64 c)
theorem eu : errW none = .nilIface := rfl
theorem ek (c : Int) : errW (some c) = .iface 0 (.int .i64 c) := rfl
theorem info41 : (Tryz.prog.info? 25).map (fun i => (i.zero, i.size, i.bytes)) = some (some (.agg #[(.string ⟨#[]⟩), (.slice none 0 0), (.bool false), (.slice none 0 0), (.int .i64 0)]), 5, 80) := by kernel_rfl
theorem kK : (Tryz.prog.info? 50).map (fun i => (i.zero, i.size, i.bytes)) = some (some (.agg #[(.int .i64 0), (.string ⟨#[]⟩), (.int .i64 0), (.int .i64 0)]), 4, 40) := by kernel_rfl
structure S46 where
  f0 : Int
  f1 : ByteArray
  f2 : Int
  f3 : Int
def z46 : S46 := ⟨(0 : Int), (⟨#[]⟩ : ByteArray), (0 : Int), (0 : Int)⟩
def k46 : Kd S46 := Kd.iso (Kd.pair (Kd.int .i64) (Kd.pair Kd.string (Kd.pair (Kd.int .i64) (Kd.int .i64)))) (fun x : S46 => (x.f0, x.f1, x.f2, x.f3))
theorem k46_open {w : World} {x : S46} {cs : List Value} (h : k46.K w x cs) : cs = [.int .i64 x.f0, .string x.f1, .int .i64 x.f2, .int .i64 x.f3] := by
  obtain ⟨_, _, rfl, rfl, ⟨_, _, rfl, rfl, ⟨_, _, rfl, rfl, rfl⟩⟩⟩ := h
  exact rfl
theorem jD (w : World) (base : Nat) (ok : Nat → Prop) (x : S46)  : k46.M w base ok x [.int .i64 x.f0, .string x.f1, .int .i64 x.f2, .int .i64 x.f3] := ⟨[.int .i64 x.f0], [.string x.f1, .int .i64 x.f2, .int .i64 x.f3], rfl, rfl, ⟨[.string x.f1], [.int .i64 x.f2, .int .i64 x.f3], rfl, rfl, ⟨[.int .i64 x.f2], [.int .i64 x.f3], rfl, rfl, rfl⟩⟩⟩
def ag (xs : List S46) (i : Int) : S46 := xs.getD i.toNat z46
theorem eZ {w : World} {A : Option Addr} {n : Nat} {xs : List S46} (h : Kd.C k46 w A n xs) (i : Int) (h0 : 0 ≤ i) (h1 : i < n) : ∃ ad , A = some ad ∧ w.cell? (ad.add (i.toNat * 4)) = some (.int .i64 (ag xs i).f0) ∧ w.cell? ⟨(ad.add (i.toNat * 4)).block, (ad.add (i.toNat * 4)).off + 1, none⟩ = some (.string (ag xs i).f1) ∧ w.cell? ⟨(ad.add (i.toNat * 4)).block, (ad.add (i.toNat * 4)).off + 2, none⟩ = some (.int .i64 (ag xs i).f2) ∧ w.cell? ⟨(ad.add (i.toNat * 4)).block, (ad.add (i.toNat * 4)).off + 3, none⟩ = some (.int .i64 (ag xs i).f3) := by
  obtain ⟨ad, c, e, _, hK, hc0⟩ := Kd.C_get h z46 i h0 h1
  have hc : ∀ j u, c[j]? = some u → w.cell? (ad.add (i.toNat * 4 + j)) = some u := hc0
  obtain rfl := k46_open hK
  exact ⟨ad, e, hc 0 _ rfl, by rw [← iR _ _ 1 (by omega)]; exact hc 1 _ rfl, by rw [← iR _ _ 2 (by omega)]; exact hc 2 _ rfl, by rw [← iR _ _ 3 (by omega)]; exact hc 3 _ rfl⟩
structure S41 where
  f0 : ByteArray
  f1 : (List S46)
  f2 : Bool
  f3 : (List S41)
  f4 : Int
def z41 : S41 := ⟨(⟨#[]⟩ : ByteArray), ([] : List S46), false, ([] : List S41), (0 : Int)⟩
def F41 (d : Kd S41) : Kd S41 := Kd.iso (Kd.pair Kd.string (Kd.pair (Kd.slice 50 k46) (Kd.pair Kd.bool (Kd.pair (Kd.slice 25 d) (Kd.int .i64))))) (fun x : S41 => (x.f0, x.f1, x.f2, x.f3, x.f4))
theorem mono41 : Kd.Mono F41 := Kd.mono_iso _ (Kd.jZ (Kd.jI _) (Kd.jZ (Kd.jI _) (Kd.jZ (Kd.jI _) (Kd.jZ (Kd.mono_slice 25 Kd.mono_id) (Kd.jI _)))))
theorem sub41 : Kd.Sub F41 [25, 50] := Kd.sub_iso _ (Kd.kQ (Kd.jV _ (by decide)) (Kd.kQ (Kd.jV _ (by decide)) (Kd.kQ (Kd.jV _ (by decide)) (Kd.kQ (Kd.sub_slice 25 (by decide) Kd.sub_id) (Kd.jV _ (by decide))))))
theorem sz41 : ∀ n, (Kd.upto F41 5 [25, 50] n).sz = 5 := Kd.upto_sz (fun _ => rfl)
def k41 : Kd S41 := Kd.fix F41 5 [25, 50] sz41 (Kd.upto_E sub41)
theorem k41_open {w : World} {x : S41} {cs : List Value} (h : k41.K w x cs) : ∃ A1 c1 A3 c3, cs = [.string x.f0, .slice A1 x.f1.length c1, .bool x.f2, .slice A3 x.f3.length c3, .int .i64 x.f4] ∧ x.f1.length ≤ c1 ∧ k46.C w A1 x.f1.length x.f1 ∧ x.f3.length ≤ c3 ∧ k41.C w A3 x.f3.length x.f3 := by
  obtain ⟨n, h⟩ := h
  cases n with
  | zero => exact h.elim
  | succ n =>
    obtain ⟨_, _, rfl, rfl, ⟨_, _, rfl, ⟨A1, c1, rfl, l1, g1⟩, ⟨_, _, rfl, rfl, ⟨_, _, rfl, ⟨A3, c3, rfl, l3, g3⟩, rfl⟩⟩⟩⟩ := h
    exact ⟨A1, c1, A3, c3, rfl, l1, g1, l3, Kd.fix_C g3⟩
theorem k41_mkM (w : World) (base : Nat) (ok : Nat → Prop) (x : S41) {v1 : Value} (g1 : k46.R 50 w base ok v1 x.f1) {v3 : Value} (g3 : k41.R 25 w base ok v3 x.f3) : k41.M w base ok x [.string x.f0, v1, .bool x.f2, v3, .int .i64 x.f4] := by
  obtain ⟨n3, q3⟩ := Kd.fix_R_back mono41 g3
  have r3 := Kd.upto_R_le mono41 sz41 (show n3 ≤ n3 by omega) q3
  exact ⟨n3 + 1, ⟨[.string x.f0], [v1, .bool x.f2, v3, .int .i64 x.f4], rfl, rfl, ⟨[v1], [.bool x.f2, v3, .int .i64 x.f4], rfl, ⟨v1, rfl, g1⟩, ⟨[.bool x.f2], [v3, .int .i64 x.f4], rfl, rfl, ⟨[v3], [.int .i64 x.f4], rfl, ⟨v3, rfl, r3⟩, rfl⟩⟩⟩⟩⟩
def au (xs : List S41) (i : Int) : S41 := xs.getD i.toNat z41
theorem iQ {w : World} {A : Option Addr} {n : Nat} {xs : List S41} (h : Kd.C k41 w A n xs) (i : Int) (h0 : 0 ≤ i) (h1 : i < n) : ∃ ad A1 c1 A3 c3, A = some ad ∧ w.cell? (ad.add (i.toNat * 5)) = some (.string (au xs i).f0) ∧ w.cell? ⟨(ad.add (i.toNat * 5)).block, (ad.add (i.toNat * 5)).off + 1, none⟩ = some (.slice A1 (au xs i).f1.length c1) ∧ w.cell? ⟨(ad.add (i.toNat * 5)).block, (ad.add (i.toNat * 5)).off + 2, none⟩ = some (.bool (au xs i).f2) ∧ w.cell? ⟨(ad.add (i.toNat * 5)).block, (ad.add (i.toNat * 5)).off + 3, none⟩ = some (.slice A3 (au xs i).f3.length c3) ∧ w.cell? ⟨(ad.add (i.toNat * 5)).block, (ad.add (i.toNat * 5)).off + 4, none⟩ = some (.int .i64 (au xs i).f4) ∧ (au xs i).f1.length ≤ c1 ∧ k46.C w A1 (au xs i).f1.length (au xs i).f1 ∧ (au xs i).f3.length ≤ c3 ∧ k41.C w A3 (au xs i).f3.length (au xs i).f3 := by
  obtain ⟨ad, c, e, _, hK, hc0⟩ := Kd.C_get h z41 i h0 h1
  have hc : ∀ j u, c[j]? = some u → w.cell? (ad.add (i.toNat * 5 + j)) = some u := hc0
  obtain ⟨A1, c1, A3, c3, rfl, l1, g1, l3, g3⟩ := k41_open hK
  exact ⟨ad, A1, c1, A3, c3, e, hc 0 _ rfl, by rw [← iR _ _ 1 (by omega)]; exact hc 1 _ rfl, by rw [← iR _ _ 2 (by omega)]; exact hc 2 _ rfl, by rw [← iR _ _ 3 (by omega)]; exact hc 3 _ rfl, by rw [← iR _ _ 4 (by omega)]; exact hc 4 _ rfl, l1, g1, l3, g3⟩
theorem bk_ {p q : Prop} (k : q) (h : q → p := by intro h; ((with_reducible repeat (first | refine ku ?_ _ | refine bI ?_ | refine fH ?_ _)); exact h)) : p := h k
theorem bl_ {p q : Prop} (k : q) (h : q → p := by intro h; repeat (first | (with_reducible first | exact h | apply dF | apply dV | apply bD) | exact h)) : p := h k
theorem er_ {p : Prop} (h : p := by first | rfl | (simp [eu, ek] <;> rfl) | (simp [*, eu, ek] <;> rfl)) : p := h
theorem bl1_ {p q q0 : Prop} (k : q) (g0 : q0) (h : q → q0 → p := by intro h g0; repeat (first | (with_reducible first | exact h | apply dF | apply dV | apply bD | refine bK ?_ g0) | exact h)) : p := h k g0
theorem bl2_ {p q q0 q1 : Prop} (k : q) (g0 : q0) (g1 : q1) (h : q → q0 → q1 → p := by intro h g0 g1; repeat (first | (with_reducible first | exact h | apply dF | apply dV | apply bD | refine bK ?_ g0 | refine bK ?_ g1) | exact h)) : p := h k g0 g1
theorem bl3_ {p q q0 q1 q2 : Prop} (k : q) (g0 : q0) (g1 : q1) (g2 : q2) (h : q → q0 → q1 → q2 → p := by intro h g0 g1 g2; repeat (first | (with_reducible first | exact h | apply dF | apply dV | apply bD | refine bK ?_ g0 | refine bK ?_ g1 | refine bK ?_ g2) | exact h)) : p := h k g0 g1 g2
theorem bl4_ {p q q0 q1 q2 q3 : Prop} (k : q) (g0 : q0) (g1 : q1) (g2 : q2) (g3 : q3) (h : q → q0 → q1 → q2 → q3 → p := by intro h g0 g1 g2 g3; repeat (first | (with_reducible first | exact h | apply dF | apply dV | apply bD | refine bK ?_ g0 | refine bK ?_ g1 | refine bK ?_ g2 | refine bK ?_ g3) | exact h)) : p := h k g0 g1 g2 g3
theorem bl5_ {p q q0 q1 q2 q3 q4 : Prop} (k : q) (g0 : q0) (g1 : q1) (g2 : q2) (g3 : q3) (g4 : q4) (h : q → q0 → q1 → q2 → q3 → q4 → p := by intro h g0 g1 g2 g3 g4; repeat (first | (with_reducible first | exact h | apply dF | apply dV | apply bD | refine bK ?_ g0 | refine bK ?_ g1 | refine bK ?_ g2 | refine bK ?_ g3 | refine bK ?_ g4) | exact h)) : p := h k g0 g1 g2 g3 g4
theorem fr_ {p a b : Prop} (x : a) (y : b) (h : a → b → p := by intro x_ y_; first | exact Nat.ne_of_lt (Nat.lt_of_lt_of_le (by have := World.block_lt_of_cell? _ _ x_; first | rwa [add_block] at this | exact this) y_) | (rw [add_block]; exact Nat.ne_of_lt (Nat.lt_of_lt_of_le (by have := World.block_lt_of_cell? _ _ x_; first | rwa [add_block] at this | exact this) y_)) | (show (Addr.add _ _).block ≠ _; rw [add_block]; exact Nat.ne_of_lt (Nat.lt_of_lt_of_le (by have := World.block_lt_of_cell? _ _ x_; first | rwa [add_block] at this | exact this) y_)) | (dsimp only; exact Nat.ne_of_lt (Nat.lt_of_lt_of_le (by have := World.block_lt_of_cell? _ _ x_; first | rwa [add_block] at this | exact this) y_))) : p := h x y
theorem al_ {w : World} {o : Obj} {a : Addr} {v : Value} (h : w.cell? a = some v) : (w.alloc o).cell? a = some v := (World.cell?_alloc_lt _ _ _ (World.block_lt_of_cell? _ _ h)).trans h
theorem ga_ {p : Prop} (h : p := by (try simp only [List.map_toArray, List.map_cons, List.map_nil]); first | done | rfl | (simp only [List.length_drop, List.length_take]; rfl)) : p := h
theorem pr_ {P : Program} {ops : Array Oper} {Q : Exit → Act → World → Prop} {md : Region.Mode} {S : World → Prop} {ds : List Nat} {i : Nat} {N : Option Tmp} {oi : Oper} {v : Value} {fuel : Nat} {l : Array Bool} {a : Act} {w : World} (l' : Array Bool) (hc : anyB md ops l l' i = true) {a' : Act} (h : bJ P md ops Q S ds fuel l' a' w)
    (hi : ops[i]? = some oi := by rfl) (hN : oi.dst = N := by rfl) (hQ : ∀ c a w, Q (.panic c) (a.put oi.dst v) w → Q (.panic c) a w := by exact fun _ _ _ h => h) (hy : Yields P ops oi v a := by exact Or.inl ⟨by rfl, by intro w'; go_simp; with_reducible rfl⟩) (ha : a.put N v = a' := by simp only [Act.put, List.setIfInBounds_toArray, List.set_cons_zero, List.set_cons_succ, cz, cK]; rfl) : bJ P md ops Q S ds (fuel + 1) l a w := iJ l' hi hN hc hQ hy ha h
theorem bx_ {P : Program} {ops : Array Oper} {rest : List Oper} {o : Oper} {a : Act} {Q : Exit → Act → World → Prop} {W : World} {N : Tmp} {cs : Array Value} {t : TypeId}
    (h : ∀ g, g = W.heap.size → ∀ w1, w1.heap[g]? = some (.cells cs t (0, 0)) → Below W.heap.size W w1 → wpList P ops Q rest (a.put o.dst (.pointer (some ⟨g, 0, none⟩))) w1) (hgd : o.guard = none := by rfl) (hd : o.dst = some N := by rfl)
    (hrun : (execOp a.eval o).run P W = .ok (.value (.pointer (some ⟨W.heap.size, 0, none⟩))) (W.alloc (.cells cs t (0, 0))) := by first | (go_simp; done) | (go_simp; rfl)) : wpList P ops Q (o :: rest) a W := eY hgd hd hrun h
theorem fs_ {p a : Prop} (z : a) (h : a → p := by intro z_; first | exact z_ | (rw [add_block]; exact z_) | (show (Addr.add _ _).block ≠ _; rw [add_block]; exact z_) | (dsimp only; exact z_)) : p := h z
theorem bb_ {W0 W w1 : World} {g : Nat} {o : Obj} (k : W0.heap[g]? = some o) (hb : Below W.heap.size W w1) (h : W0.heap[g]? = some o → W.heap[g]? = some o := by intro h; ((with_reducible repeat (first | refine ku ?_ _ | refine bI ?_ | refine fH ?_ _)); exact h)) : w1.heap[g]? = some o := aZ (h k) hb
theorem bz_ {w W : World} {g : Nat} (hg : g = W.heap.size) (h : Below w.heap.size w W) : w.heap.size ≤ g := by rw [hg]; exact bH h
theorem nl_ {W0 W : World} {a g : Nat} {o : Obj} (hg : g = W.heap.size) (k : W0.heap[a]? = some o) (h : W0.heap[a]? = some o → W.heap[a]? = some o := by intro h; ((with_reducible repeat (first | refine ku ?_ _ | refine bI ?_ | refine fH ?_ _)); exact h)) : a ≠ g := by rw [hg]; exact Nat.ne_of_lt (gy (h k))
theorem ng_ {W0 W : World} {a g : Nat} {o : Obj} (hg : g = W.heap.size) (k : W0.heap[a]? = some o) (h : W0.heap[a]? = some o → W.heap[a]? = some o := by intro h; ((with_reducible repeat (first | refine ku ?_ _ | refine bI ?_ | refine fH ?_ _)); exact h)) : g ≠ a := by rw [hg]; exact Nat.ne_of_gt (gy (h k))
theorem rR_ {p q : Prop} (k : q) (h : q → p := by intro h; ((with_reducible repeat (first | apply Kd.gP | apply Kd.gN | apply Kd.dU)); exact h)) : p := h k
theorem kk_ {p q : Prop} (k : q) (h : q → p := by intro h; repeat (first | (with_reducible first | exact h | apply aV.set_ | apply jK | apply fF | apply jL) | exact h)) : p := h k
theorem cf1_ {W : World} {i1 : Nat} (g : Nat) {a : Addr} (h : a.block ≠ g) {u1 : Value} {v : Option Value} (k : W.cell? a = v) : (W.setCell ⟨g, i1, none⟩ u1).cell? a = v := (cell_far (p := ⟨g, _, none⟩) h _).trans k
theorem cf2_ {W : World} {i1 i2 : Nat} (g : Nat) {a : Addr} (h : a.block ≠ g) {u1 u2 : Value} {v : Option Value} (k : W.cell? a = v) : ((W.setCell ⟨g, i1, none⟩ u1).setCell ⟨g, i2, none⟩ u2).cell? a = v := cf1_ g h (cf1_ g h k)
theorem cf3_ {W : World} {i1 i2 i3 : Nat} (g : Nat) {a : Addr} (h : a.block ≠ g) {u1 u2 u3 : Value} {v : Option Value} (k : W.cell? a = v) : (((W.setCell ⟨g, i1, none⟩ u1).setCell ⟨g, i2, none⟩ u2).setCell ⟨g, i3, none⟩ u3).cell? a = v := cf1_ g h (cf2_ g h k)
theorem cf4_ {W : World} {i1 i2 i3 i4 : Nat} (g : Nat) {a : Addr} (h : a.block ≠ g) {u1 u2 u3 u4 : Value} {v : Option Value} (k : W.cell? a = v) : ((((W.setCell ⟨g, i1, none⟩ u1).setCell ⟨g, i2, none⟩ u2).setCell ⟨g, i3, none⟩ u3).setCell ⟨g, i4, none⟩ u4).cell? a = v := cf1_ g h (cf3_ g h k)
theorem cf5_ {W : World} {i1 i2 i3 i4 i5 : Nat} (g : Nat) {a : Addr} (h : a.block ≠ g) {u1 u2 u3 u4 u5 : Value} {v : Option Value} (k : W.cell? a = v) : (((((W.setCell ⟨g, i1, none⟩ u1).setCell ⟨g, i2, none⟩ u2).setCell ⟨g, i3, none⟩ u3).setCell ⟨g, i4, none⟩ u4).setCell ⟨g, i5, none⟩ u5).cell? a = v := cf1_ g h (cf4_ g h k)
theorem cx_ {W : World} {a : Addr} {v : Option Value} {q : Prop} (g i : Nat) (u : Value) (x : q) (h : W.cell? a = v) (hne : q → a.block ≠ g := by intro x_; first | (rw [add_block]; exact x_) | (show (Addr.add _ _).block ≠ _; rw [add_block]; exact x_) | exact x_) : (W.setCell ⟨g, i, none⟩ u).cell? a = v := (cell_far (p := ⟨g, i, none⟩) (hne x) u).trans h
theorem dt_ {p : Prop} [Decidable p] (h : decide p = true := by first | (with_reducible assumption) | assumption) : p := of_decide_eq_true h
theorem sr_ {p : Prop} (h : p := by first | rfl | (simp; done) | (simp [*]; done) | (simp <;> rfl)) : p := h
theorem ni_ {p : Prop} (h : p := by first | exact Kd.R_nil _ _ _ _ _ | exact Kd.N_nil _ _ _ _ _ | exact Kd.V_nil _ _ _ _ _ | exact Kd.Q_nil _ _ _ _ _ | exact Kd.S_nil _ _ _ _ _) : p := h
theorem gD {a0 G : Prop} (x0 : a0) (h : af a0 → G) : G := h ⟨x0⟩
theorem fK {a0 a1 G : Prop} (x0 : a0) (x1 : a1) (h : af a0 → af a1 → G) : G := h ⟨x0⟩ ⟨x1⟩
theorem fu {a0 a1 a2 G : Prop} (x0 : a0) (x1 : a1) (x2 : a2) (h : af a0 → af a1 → af a2 → G) : G := h ⟨x0⟩ ⟨x1⟩ ⟨x2⟩
theorem df {a0 a1 a2 a3 G : Prop} (x0 : a0) (x1 : a1) (x2 : a2) (x3 : a3) (h : af a0 → af a1 → af a2 → af a3 → G) : G := h ⟨x0⟩ ⟨x1⟩ ⟨x2⟩ ⟨x3⟩
theorem gm {a0 a1 a2 a3 a4 G : Prop} (x0 : a0) (x1 : a1) (x2 : a2) (x3 : a3) (x4 : a4) (h : af a0 → af a1 → af a2 → af a3 → af a4 → G) : G := h ⟨x0⟩ ⟨x1⟩ ⟨x2⟩ ⟨x3⟩ ⟨x4⟩
theorem kF {a0 a1 a2 a3 a4 a5 G : Prop} (x0 : a0) (x1 : a1) (x2 : a2) (x3 : a3) (x4 : a4) (x5 : a5) (h : af a0 → af a1 → af a2 → af a3 → af a4 → af a5 → G) : G := h ⟨x0⟩ ⟨x1⟩ ⟨x2⟩ ⟨x3⟩ ⟨x4⟩ ⟨x5⟩
theorem gH {a0 a1 a2 a3 a4 a5 a6 G : Prop} (x0 : a0) (x1 : a1) (x2 : a2) (x3 : a3) (x4 : a4) (x5 : a5) (x6 : a6) (h : af a0 → af a1 → af a2 → af a3 → af a4 → af a5 → af a6 → G) : G := h ⟨x0⟩ ⟨x1⟩ ⟨x2⟩ ⟨x3⟩ ⟨x4⟩ ⟨x5⟩ ⟨x6⟩
theorem jm {a0 a1 a2 a3 a4 a5 a6 a7 G : Prop} (x0 : a0) (x1 : a1) (x2 : a2) (x3 : a3) (x4 : a4) (x5 : a5) (x6 : a6) (x7 : a7) (h : af a0 → af a1 → af a2 → af a3 → af a4 → af a5 → af a6 → af a7 → G) : G := h ⟨x0⟩ ⟨x1⟩ ⟨x2⟩ ⟨x3⟩ ⟨x4⟩ ⟨x5⟩ ⟨x6⟩ ⟨x7⟩
theorem cut9_ {a0 a1 a2 a3 a4 a5 a6 a7 a8 G : Prop} (x0 : a0) (x1 : a1) (x2 : a2) (x3 : a3) (x4 : a4) (x5 : a5) (x6 : a6) (x7 : a7) (x8 : a8) (h : af a0 → af a1 → af a2 → af a3 → af a4 → af a5 → af a6 → af a7 → af a8 → G) : G := h ⟨x0⟩ ⟨x1⟩ ⟨x2⟩ ⟨x3⟩ ⟨x4⟩ ⟨x5⟩ ⟨x6⟩ ⟨x7⟩ ⟨x8⟩
theorem jr {a0 a1 a2 a3 a4 a5 a6 a7 a8 a9 G : Prop} (x0 : a0) (x1 : a1) (x2 : a2) (x3 : a3) (x4 : a4) (x5 : a5) (x6 : a6) (x7 : a7) (x8 : a8) (x9 : a9) (h : af a0 → af a1 → af a2 → af a3 → af a4 → af a5 → af a6 → af a7 → af a8 → af a9 → G) : G := h ⟨x0⟩ ⟨x1⟩ ⟨x2⟩ ⟨x3⟩ ⟨x4⟩ ⟨x5⟩ ⟨x6⟩ ⟨x7⟩ ⟨x8⟩ ⟨x9⟩
theorem kr {a0 a1 a2 a3 a4 a5 a6 a7 a8 a9 a10 G : Prop} (x0 : a0) (x1 : a1) (x2 : a2) (x3 : a3) (x4 : a4) (x5 : a5) (x6 : a6) (x7 : a7) (x8 : a8) (x9 : a9) (x10 : a10) (h : af a0 → af a1 → af a2 → af a3 → af a4 → af a5 → af a6 → af a7 → af a8 → af a9 → af a10 → G) : G := h ⟨x0⟩ ⟨x1⟩ ⟨x2⟩ ⟨x3⟩ ⟨x4⟩ ⟨x5⟩ ⟨x6⟩ ⟨x7⟩ ⟨x8⟩ ⟨x9⟩ ⟨x10⟩
theorem cut13_ {a0 a1 a2 a3 a4 a5 a6 a7 a8 a9 a10 a11 a12 G : Prop} (x0 : a0) (x1 : a1) (x2 : a2) (x3 : a3) (x4 : a4) (x5 : a5) (x6 : a6) (x7 : a7) (x8 : a8) (x9 : a9) (x10 : a10) (x11 : a11) (x12 : a12) (h : af a0 → af a1 → af a2 → af a3 → af a4 → af a5 → af a6 → af a7 → af a8 → af a9 → af a10 → af a11 → af a12 → G) : G := h ⟨x0⟩ ⟨x1⟩ ⟨x2⟩ ⟨x3⟩ ⟨x4⟩ ⟨x5⟩ ⟨x6⟩ ⟨x7⟩ ⟨x8⟩ ⟨x9⟩ ⟨x10⟩ ⟨x11⟩ ⟨x12⟩
theorem cut14_ {a0 a1 a2 a3 a4 a5 a6 a7 a8 a9 a10 a11 a12 a13 G : Prop} (x0 : a0) (x1 : a1) (x2 : a2) (x3 : a3) (x4 : a4) (x5 : a5) (x6 : a6) (x7 : a7) (x8 : a8) (x9 : a9) (x10 : a10) (x11 : a11) (x12 : a12) (x13 : a13) (h : af a0 → af a1 → af a2 → af a3 → af a4 → af a5 → af a6 → af a7 → af a8 → af a9 → af a10 → af a11 → af a12 → af a13 → G) : G := h ⟨x0⟩ ⟨x1⟩ ⟨x2⟩ ⟨x3⟩ ⟨x4⟩ ⟨x5⟩ ⟨x6⟩ ⟨x7⟩ ⟨x8⟩ ⟨x9⟩ ⟨x10⟩ ⟨x11⟩ ⟨x12⟩ ⟨x13⟩
theorem cut15_ {a0 a1 a2 a3 a4 a5 a6 a7 a8 a9 a10 a11 a12 a13 a14 G : Prop} (x0 : a0) (x1 : a1) (x2 : a2) (x3 : a3) (x4 : a4) (x5 : a5) (x6 : a6) (x7 : a7) (x8 : a8) (x9 : a9) (x10 : a10) (x11 : a11) (x12 : a12) (x13 : a13) (x14 : a14) (h : af a0 → af a1 → af a2 → af a3 → af a4 → af a5 → af a6 → af a7 → af a8 → af a9 → af a10 → af a11 → af a12 → af a13 → af a14 → G) : G := h ⟨x0⟩ ⟨x1⟩ ⟨x2⟩ ⟨x3⟩ ⟨x4⟩ ⟨x5⟩ ⟨x6⟩ ⟨x7⟩ ⟨x8⟩ ⟨x9⟩ ⟨x10⟩ ⟨x11⟩ ⟨x12⟩ ⟨x13⟩ ⟨x14⟩
theorem cut17_ {a0 a1 a2 a3 a4 a5 a6 a7 a8 a9 a10 a11 a12 a13 a14 a15 a16 G : Prop} (x0 : a0) (x1 : a1) (x2 : a2) (x3 : a3) (x4 : a4) (x5 : a5) (x6 : a6) (x7 : a7) (x8 : a8) (x9 : a9) (x10 : a10) (x11 : a11) (x12 : a12) (x13 : a13) (x14 : a14) (x15 : a15) (x16 : a16) (h : af a0 → af a1 → af a2 → af a3 → af a4 → af a5 → af a6 → af a7 → af a8 → af a9 → af a10 → af a11 → af a12 → af a13 → af a14 → af a15 → af a16 → G) : G := h ⟨x0⟩ ⟨x1⟩ ⟨x2⟩ ⟨x3⟩ ⟨x4⟩ ⟨x5⟩ ⟨x6⟩ ⟨x7⟩ ⟨x8⟩ ⟨x9⟩ ⟨x10⟩ ⟨x11⟩ ⟨x12⟩ ⟨x13⟩ ⟨x14⟩ ⟨x15⟩ ⟨x16⟩
theorem cut20_ {a0 a1 a2 a3 a4 a5 a6 a7 a8 a9 a10 a11 a12 a13 a14 a15 a16 a17 a18 a19 G : Prop} (x0 : a0) (x1 : a1) (x2 : a2) (x3 : a3) (x4 : a4) (x5 : a5) (x6 : a6) (x7 : a7) (x8 : a8) (x9 : a9) (x10 : a10) (x11 : a11) (x12 : a12) (x13 : a13) (x14 : a14) (x15 : a15) (x16 : a16) (x17 : a17) (x18 : a18) (x19 : a19) (h : af a0 → af a1 → af a2 → af a3 → af a4 → af a5 → af a6 → af a7 → af a8 → af a9 → af a10 → af a11 → af a12 → af a13 → af a14 → af a15 → af a16 → af a17 → af a18 → af a19 → G) : G := h ⟨x0⟩ ⟨x1⟩ ⟨x2⟩ ⟨x3⟩ ⟨x4⟩ ⟨x5⟩ ⟨x6⟩ ⟨x7⟩ ⟨x8⟩ ⟨x9⟩ ⟨x10⟩ ⟨x11⟩ ⟨x12⟩ ⟨x13⟩ ⟨x14⟩ ⟨x15⟩ ⟨x16⟩ ⟨x17⟩ ⟨x18⟩ ⟨x19⟩
theorem gU {W : World} {g : Nat} {t : TypeId} {c0 c1 u0 u1 : Value} (h : W.heap[g]? = some (.cells #[c0, c1] t (0, 0))) : ((W.setCell ⟨g, 0, none⟩ u0).setCell ⟨g, 1, none⟩ u1).heap[g]? = some (.cells #[u0, u1] t (0, 0)) := (aU (cs := #[u0, c1]) (aU (cs := #[c0, c1]) h 0 u0 rfl) 1 u1 rfl)
theorem cq2_ {w : World} {g : Nat} {t : TypeId} {c0 c1 : Value} (h : w.heap[g]? = some (.cells #[c0, c1] t (0, 0))) : w.cell? ⟨g, 0, none⟩ = some c0 ∧ w.cell? ⟨g, 1, none⟩ = some c1 ∧ w.frozen? ⟨g, 0, none⟩ = false ∧ w.frozen? ⟨g, 1, none⟩ = false := ⟨(ax h 0).trans rfl, (ax h 1).trans rfl, aC h 0, aC h 1⟩
theorem dK {W : World} {g : Nat} {t : TypeId} {c0 c1 c2 c3 u0 u1 u2 u3 : Value} (h : W.heap[g]? = some (.cells #[c0, c1, c2, c3] t (0, 0))) : ((((W.setCell ⟨g, 0, none⟩ u0).setCell ⟨g, 1, none⟩ u1).setCell ⟨g, 2, none⟩ u2).setCell ⟨g, 3, none⟩ u3).heap[g]? = some (.cells #[u0, u1, u2, u3] t (0, 0)) := (aU (cs := #[u0, u1, u2, c3]) (aU (cs := #[u0, u1, c2, c3]) (aU (cs := #[u0, c1, c2, c3]) (aU (cs := #[c0, c1, c2, c3]) h 0 u0 rfl) 1 u1 rfl) 2 u2 rfl) 3 u3 rfl)
theorem cq4_ {w : World} {g : Nat} {t : TypeId} {c0 c1 c2 c3 : Value} (h : w.heap[g]? = some (.cells #[c0, c1, c2, c3] t (0, 0))) : w.cell? ⟨g, 0, none⟩ = some c0 ∧ w.cell? ⟨g, 1, none⟩ = some c1 ∧ w.cell? ⟨g, 2, none⟩ = some c2 ∧ w.cell? ⟨g, 3, none⟩ = some c3 ∧ w.frozen? ⟨g, 0, none⟩ = false ∧ w.frozen? ⟨g, 1, none⟩ = false ∧ w.frozen? ⟨g, 2, none⟩ = false ∧ w.frozen? ⟨g, 3, none⟩ = false := ⟨(ax h 0).trans rfl, (ax h 1).trans rfl, (ax h 2).trans rfl, (ax h 3).trans rfl, aC h 0, aC h 1, aC h 2, aC h 3⟩
theorem ik {W : World} {g : Nat} {t : TypeId} {c0 c1 c2 c3 c4 u0 u1 u2 u3 u4 : Value} (h : W.heap[g]? = some (.cells #[c0, c1, c2, c3, c4] t (0, 0))) : (((((W.setCell ⟨g, 0, none⟩ u0).setCell ⟨g, 1, none⟩ u1).setCell ⟨g, 2, none⟩ u2).setCell ⟨g, 3, none⟩ u3).setCell ⟨g, 4, none⟩ u4).heap[g]? = some (.cells #[u0, u1, u2, u3, u4] t (0, 0)) := (aU (cs := #[u0, u1, u2, u3, c4]) (aU (cs := #[u0, u1, u2, c3, c4]) (aU (cs := #[u0, u1, c2, c3, c4]) (aU (cs := #[u0, c1, c2, c3, c4]) (aU (cs := #[c0, c1, c2, c3, c4]) h 0 u0 rfl) 1 u1 rfl) 2 u2 rfl) 3 u3 rfl) 4 u4 rfl)
theorem cq5_ {w : World} {g : Nat} {t : TypeId} {c0 c1 c2 c3 c4 : Value} (h : w.heap[g]? = some (.cells #[c0, c1, c2, c3, c4] t (0, 0))) : w.cell? ⟨g, 0, none⟩ = some c0 ∧ w.cell? ⟨g, 1, none⟩ = some c1 ∧ w.cell? ⟨g, 2, none⟩ = some c2 ∧ w.cell? ⟨g, 3, none⟩ = some c3 ∧ w.cell? ⟨g, 4, none⟩ = some c4 ∧ w.frozen? ⟨g, 0, none⟩ = false ∧ w.frozen? ⟨g, 1, none⟩ = false ∧ w.frozen? ⟨g, 2, none⟩ = false ∧ w.frozen? ⟨g, 3, none⟩ = false ∧ w.frozen? ⟨g, 4, none⟩ = false := ⟨(ax h 0).trans rfl, (ax h 1).trans rfl, (ax h 2).trans rfl, (ax h 3).trans rfl, (ax h 4).trans rfl, aC h 0, aC h 1, aC h 2, aC h 3, aC h 4⟩
theorem fO {W : World} {g b i1 : Nat} {t : TypeId} {cs : Array Value} {u1 : Value} (h : W.heap[g]? = some (.cells cs t (0, 0))) (hp : g ≠ b) : (W.setCell ⟨b, i1, none⟩ u1).heap[g]? = some (.cells cs t (0, 0)) := blk_far (p := ⟨b, i1, none⟩) h hp u1
theorem dC {W : World} {g b i1 i2 : Nat} {t : TypeId} {cs : Array Value} {u1 u2 : Value} (h : W.heap[g]? = some (.cells cs t (0, 0))) (hp : g ≠ b) : ((W.setCell ⟨b, i1, none⟩ u1).setCell ⟨b, i2, none⟩ u2).heap[g]? = some (.cells cs t (0, 0)) := fO (fO h hp) hp
theorem far3_ {W : World} {g b i1 i2 i3 : Nat} {t : TypeId} {cs : Array Value} {u1 u2 u3 : Value} (h : W.heap[g]? = some (.cells cs t (0, 0))) (hp : g ≠ b) : (((W.setCell ⟨b, i1, none⟩ u1).setCell ⟨b, i2, none⟩ u2).setCell ⟨b, i3, none⟩ u3).heap[g]? = some (.cells cs t (0, 0)) := fO (dC h hp) hp
theorem eX {W : World} {g b i1 i2 i3 i4 : Nat} {t : TypeId} {cs : Array Value} {u1 u2 u3 u4 : Value} (h : W.heap[g]? = some (.cells cs t (0, 0))) (hp : g ≠ b) : ((((W.setCell ⟨b, i1, none⟩ u1).setCell ⟨b, i2, none⟩ u2).setCell ⟨b, i3, none⟩ u3).setCell ⟨b, i4, none⟩ u4).heap[g]? = some (.cells cs t (0, 0)) := fO (far3_ h hp) hp
theorem iy {W : World} {g b i1 i2 i3 i4 i5 : Nat} {t : TypeId} {cs : Array Value} {u1 u2 u3 u4 u5 : Value} (h : W.heap[g]? = some (.cells cs t (0, 0))) (hp : g ≠ b) : (((((W.setCell ⟨b, i1, none⟩ u1).setCell ⟨b, i2, none⟩ u2).setCell ⟨b, i3, none⟩ u3).setCell ⟨b, i4, none⟩ u4).setCell ⟨b, i5, none⟩ u5).heap[g]? = some (.cells cs t (0, 0)) := fO (eX h hp) hp
theorem kz_ {w W : World} {g0 g : Nat} {row : Option Nat} (hg : g = W.heap.size) (h : aV w W g0 row) : w.heap.size ≤ g := by rw [hg]; exact eU h
theorem kk1_ {p q q0 : Prop} (k : q) (g0 : q0) (h : q → q0 → p := by intro h g0; repeat (first | (with_reducible first | exact h | apply aV.set_ | apply jK | apply fF | apply jL | refine jJ ?_ g0 _) | exact h)) : p := h k g0
theorem kk2_ {p q q0 q1 : Prop} (k : q) (g0 : q0) (g1 : q1) (h : q → q0 → q1 → p := by intro h g0 g1; repeat (first | (with_reducible first | exact h | apply aV.set_ | apply jK | apply fF | apply jL | refine jJ ?_ g0 _ | refine jJ ?_ g1 _) | exact h)) : p := h k g0 g1
theorem kk3_ {p q q0 q1 q2 : Prop} (k : q) (g0 : q0) (g1 : q1) (g2 : q2) (h : q → q0 → q1 → q2 → p := by intro h g0 g1 g2; repeat (first | (with_reducible first | exact h | apply aV.set_ | apply jK | apply fF | apply jL | refine jJ ?_ g0 _ | refine jJ ?_ g1 _ | refine jJ ?_ g2 _) | exact h)) : p := h k g0 g1 g2
theorem ce_ {w : World} {g : Nat} {t : TypeId} {cs : Array Value} {v : Value} (h : w.heap[g]? = some (.cells cs t (0, 0))) (i : Nat) (e : cs[i]? = some v := by rfl) : w.cell? ⟨g, i, none⟩ = some v := (ax h i).trans e
theorem bw_ {w W : World} (hw : w = W) {g : Nat} {o : Obj} (h : W.heap[g]? = some o) : w.heap[g]? = some o := by rw [hw]; exact h
theorem bW_ {w W w0 : World} {n : Nat} (hw : w = W) (h : Below n w0 W) : Below n w0 w := by rw [hw]; exact h
theorem rf1_ {α : Type} {d : Kd α} {e base : Nat} {ok : Nat → Prop} {W : World} {v : Value} {xs : List α} {i0 : Nat} {u0 : Value} (g : Nat) (h : d.R e W base (fun k => ok k ∧ k ≠ g) v xs) : d.R e (W.setCell ⟨g, i0, none⟩ u0) base (fun k => ok k ∧ k ≠ g) v xs := Kd.bR (p := ⟨g, i0, none⟩) h (fun _ hk => hk.2) u0
theorem rf2_ {α : Type} {d : Kd α} {e base : Nat} {ok : Nat → Prop} {W : World} {v : Value} {xs : List α} {i0 i1 : Nat} {u0 u1 : Value} (g : Nat) (h : d.R e W base (fun k => ok k ∧ k ≠ g) v xs) : d.R e ((W.setCell ⟨g, i0, none⟩ u0).setCell ⟨g, i1, none⟩ u1) base (fun k => ok k ∧ k ≠ g) v xs := Kd.bR (p := ⟨g, i1, none⟩) (rf1_ g h) (fun _ hk => hk.2) u1
theorem rf3_ {α : Type} {d : Kd α} {e base : Nat} {ok : Nat → Prop} {W : World} {v : Value} {xs : List α} {i0 i1 i2 : Nat} {u0 u1 u2 : Value} (g : Nat) (h : d.R e W base (fun k => ok k ∧ k ≠ g) v xs) : d.R e (((W.setCell ⟨g, i0, none⟩ u0).setCell ⟨g, i1, none⟩ u1).setCell ⟨g, i2, none⟩ u2) base (fun k => ok k ∧ k ≠ g) v xs := Kd.bR (p := ⟨g, i2, none⟩) (rf2_ g h) (fun _ hk => hk.2) u2
theorem rf4_ {α : Type} {d : Kd α} {e base : Nat} {ok : Nat → Prop} {W : World} {v : Value} {xs : List α} {i0 i1 i2 i3 : Nat} {u0 u1 u2 u3 : Value} (g : Nat) (h : d.R e W base (fun k => ok k ∧ k ≠ g) v xs) : d.R e ((((W.setCell ⟨g, i0, none⟩ u0).setCell ⟨g, i1, none⟩ u1).setCell ⟨g, i2, none⟩ u2).setCell ⟨g, i3, none⟩ u3) base (fun k => ok k ∧ k ≠ g) v xs := Kd.bR (p := ⟨g, i3, none⟩) (rf3_ g h) (fun _ hk => hk.2) u3
theorem rf5_ {α : Type} {d : Kd α} {e base : Nat} {ok : Nat → Prop} {W : World} {v : Value} {xs : List α} {i0 i1 i2 i3 i4 : Nat} {u0 u1 u2 u3 u4 : Value} (g : Nat) (h : d.R e W base (fun k => ok k ∧ k ≠ g) v xs) : d.R e (((((W.setCell ⟨g, i0, none⟩ u0).setCell ⟨g, i1, none⟩ u1).setCell ⟨g, i2, none⟩ u2).setCell ⟨g, i3, none⟩ u3).setCell ⟨g, i4, none⟩ u4) base (fun k => ok k ∧ k ≠ g) v xs := Kd.bR (p := ⟨g, i4, none⟩) (rf4_ g h) (fun _ hk => hk.2) u4
theorem om_ {p q : Prop} (k : q) (h : q → p := by intro h; omega) : p := h k
theorem ol_ {p q : Prop} (k : q) (h : q → p := by intro h; first | omega | exact Nat.le_refl _) : p := h k
def bmL_ : Nat → Nat → List Bool
  | 0, _ => []
  | n + 1, m => (m % 2 == 1) :: bmL_ n (m / 2)
def bm_ (n m : Nat) : Array Bool := (bmL_ n m).toArray
section
variable {α β : Type} {c : Prop} [Decidable c] {a b : Option α} {r : α}
end
section
variable {α β : Type} {a b : Option α} {r : α}
theorem gp_ {c : Prop} [Decidable c] (H : (if c then a else none) = some r) : c ∧ a = some r := by
  by_cases h : c
  · rw [if_pos h] at H; exact ⟨h, H⟩
  · rw [if_neg h] at H; cases H
theorem gn_ {c : Prop} [Decidable c] (H : (if c then none else b) = some r) : ¬ c ∧ b = some r := by
  by_cases h : c
  · rw [if_pos h] at H; cases H
  · rw [if_neg h] at H; exact ⟨h, H⟩
theorem gd_ {c : Prop} [Decidable c] (H : (if c then a else none) = some r) : decide c = true ∧ a = some r := ⟨decide_eq_true (gp_ H).1, (gp_ H).2⟩
theorem gt_ {c : Prop} [Decidable c] (H : (if c then a else none) = some r) : c = True ∧ decide c = true ∧ a = some r := ⟨eq_true (gp_ H).1, decide_eq_true (gp_ H).1, (gp_ H).2⟩
theorem sp_ {c : Prop} [Decidable c] (H : (if c then a else b) = some r) : (c ∧ a = some r) ∨ (¬ c ∧ b = some r) := by
  by_cases h : c
  · rw [if_pos h] at H; exact .inl ⟨h, H⟩
  · rw [if_neg h] at H; exact .inr ⟨h, H⟩
theorem sd_ {c : Prop} [Decidable c] (H : (if c then a else b) = some r) : (decide c = true ∧ a = some r) ∨ (decide c = false ∧ b = some r) := (sp_ H).imp (fun h => ⟨decide_eq_true h.1, h.2⟩) (fun h => ⟨decide_eq_false h.1, h.2⟩)
theorem gb_ {t : Bool} (H : (if t = true then a else none) = some r) : t = true ∧ a = some r := gp_ H
theorem gf_ {t : Bool} (H : (if t = true then none else b) = some r) : t = false ∧ b = some r := ⟨Bool.eq_false_iff.mpr (gn_ H).1, (gn_ H).2⟩
theorem sb_ {t : Bool} (H : (if t = true then a else b) = some r) : (t = true ∧ a = some r) ∨ (t = false ∧ b = some r) := (sp_ H).imp id (fun h => ⟨Bool.eq_false_iff.mpr h.1, h.2⟩)
theorem bn_ {g : Option α} {f : α → Option β} {r : β} (H : g.bind f = some r) : ∃ a, af (g = some a) ∧ f a = some r := by
  obtain ⟨a, h1, h2⟩ := Option.bind_eq_some_iff.mp H
  exact ⟨a, ⟨h1⟩, h2⟩
end
theorem dT_ {p : Prop} [Decidable p] (h : decide p = true := by first | (with_reducible assumption) | assumption) : p = True := eq_true (of_decide_eq_true h)
section
variable {P : Program} {ops : Array Oper} {Q : Exit → Act → World → Prop} {md : Region.Mode} {S : World → Prop} {ds : List Nat} {T : Bool × List (List Nat × List Nat)} {i : Nat} {N : Option Tmp} {oi : Oper} {v : Value} {fuel : Nat} {l : Array Bool} {a a' : Act} {w : World}
theorem pt_ (hT : rtab md ops = T) (l' : Array Bool) (h : bJ P md ops Q S ds fuel l' a' w)
    (hc : anyT T l.toList l'.toList i = true := by kernel_rfl) (hi : ops[i]? = some oi := by rfl) (hN : oi.dst = N := by rfl) (hQ : ∀ c a w, Q (.panic c) (a.put oi.dst v) w → Q (.panic c) a w := by exact fun _ _ _ h => h) (hy : Yields P ops oi v a := by exact Or.inl ⟨by rfl, by intro w'; go_simp; with_reducible rfl⟩) (ha : a.put N v = a' := by simp only [Act.put, List.setIfInBounds_toArray, List.set_cons_zero, List.set_cons_succ, cz, cK]; rfl) : bJ P md ops Q S ds (fuel + 1) l a w := iJ l' hi hN (gF hT hc) hQ hy ha h
theorem tw_ {B : List Nat} (hT : rtab md ops = T) (hB : fJ T.2 B = true) (hS : S w) (l' : Array Bool) (h : bJ P md ops Q S ds fuel l' a' w) (hc : takeW T B ds l.toList l'.toList i = true := by kernel_rfl)
    (hi : ops[i]? = some oi := by rfl) (hN : oi.dst = N := by rfl) (hQ : ∀ c a w, Q (.panic c) (a.put oi.dst v) w → Q (.panic c) a w := by exact fun _ _ _ h => h) (hy : YieldsIf P ops S oi v a := by exact Or.inl ⟨by rfl, by intro w' hs; (try dsimp only at hs); (repeat (obtain ⟨_, hs⟩ := hs)); go_simp; with_reducible rfl⟩) (ha : a.put N v = a' := by simp only [Act.put, List.setIfInBounds_toArray, List.set_cons_zero, List.set_cons_succ, cz, cK]; rfl) : bJ P md ops Q S ds (fuel + 1) l a w := take_ l' hi hN (iB hT hB hc) hQ hy hS ha h
theorem on_ (hT : rtab md ops = T) (l' : Array Bool)
    (h : ∀ K : Act → World → Prop, Shut (∀ a' w', S w' → (S w' → bJ P md ops Q S ds fuel l' a' w') → K a' w') → if Region.wanted oi (yielded ops a.tmps) = true then Oper.wp P oi a w K Q else K (a.put N undef) w)
    (hc : (kX T.2 l.toList == [i] && l.toList.set i true == l'.toList) = true := by kernel_rfl) (hd : i ∉ ds := by decide) (hi : ops[i]? = some oi := by rfl) (hN : oi.dst = N := by rfl) : bJ P md ops Q S ds (fuel + 1) l a w := one_ l' hi hN (one_of hT hc) hd h
theorem nm_ (h : bJ P md ops Q S ds fuel l a' w) (ha : a = a' := by (simp only [Act.put, List.setIfInBounds_toArray, List.set_cons_zero, List.set_cons_succ, cz, cK]; rfl)) : bJ P md ops Q S ds fuel l a w := norm_ ha h
theorem sk_ {w1 : World} {K : Act → World → Prop} (h : K a w1) (hw : Region.wanted oi (yielded ops a.tmps) = true := by rfl) (hN : oi.dst = none := by rfl) (hrun : (execOp a.eval oi).run P w = .ok .skip w1 := by (go_simp; rfl)) : if Region.wanted oi (yielded ops a.tmps) = true then Oper.wp P oi a w K Q else K (a.put none undef) w := skip_ hw hN hrun h
theorem bs_ {N : Tmp} {cs : Array Value} {t : TypeId} {K : Act → World → Prop} (h : ∀ g, g = w.heap.size → ∀ w1, w1.heap[g]? = some (.cells cs t (0, 0)) → Below w.heap.size w w1 → K (a.put oi.dst (.pointer (some ⟨g, 0, none⟩))) w1) (hgd : Region.wanted oi (yielded ops a.tmps) = true := by rfl) (hd : oi.dst = some N := by rfl)
    (hrun : (execOp a.eval oi).run P w = .ok (.value (.pointer (some ⟨w.heap.size, 0, none⟩))) (w.alloc (.cells cs t (0, 0))) := by first | (go_simp; done) | (go_simp; rfl)) : if Region.wanted oi (yielded ops a.tmps) = true then Oper.wp P oi a w K Q else K (a.put oi.dst undef) w := box_step hgd hd hrun h
theorem st_ {rest : List Oper} {w1 : World} {t : TypeId} {p : Tmp} {v : Operand} (h : ∀ w', w' = w1 → wpList P ops Q rest a w') (hgd : oi.guard = none := by rfl) (ho : oi.op = .store t (.tmp p) v := by rfl) (hN : oi.dst = none := by rfl) (hrun : (execOp a.eval oi).run P w = .ok .skip w1 := by first | (go_simp; done) | (go_simp; rfl)) : wpList P ops Q (oi :: rest) a w := gW hgd ho hN hrun h
theorem gk_ {rest : List Oper} {f : FuncId} {fn : Func} {xs : Array Operand} {ts : Array TypeId} {args : Array Value} {R : Ending → World → Prop} (N : Option Tmp) (hf : P.funcs[f]? = some fn) (c : Calls P f args w R) (h : ∀ e w', R e w' → ∃ v, e = .returned v ∧ wpList P ops Q rest (a.put N v) w')
    (hd : oi.dst = N := by rfl) (hg : oi.guard = none := by rfl) (hname : (fn.name == "runtime.NumGoroutine") = false := by kernel_rfl) (hb : fn.body.isSome = true := by rfl) (hop : oi.op = .call { callee := .value (.func f), args := xs, argTypes := ts } := by rfl)
    (hargs : xs.map a.eval = args := by (try simp only [List.map_toArray, List.map_cons, List.map_nil]); first | done | rfl | (simp only [List.length_drop, List.length_take]; rfl)) : wpList P ops Q (oi :: rest) a w := dW N hd hg hf hname hb args hop hargs (c.mono h)
end
theorem jc {w w1 : World} (hb : Below w.heap.size w w1) {A : Option Addr} {xs : List S46} (h : Kd.C k46 w A xs.length xs) (i : Int) (h0 : decide (0 ≤ i) = true := by first | (with_reducible assumption) | assumption) (h1 : decide (i < (xs.length : Int)) = true := by first | (with_reducible assumption) | assumption) : (0 ≤ i) = True ∧ (i < (xs.length : Int)) = True ∧ ∃ ad, A = some ad ∧ w.cell? (ad.add (i.toNat * 4)) = some (.int .i64 (ag xs i).f0) ∧ w.cell? ⟨(ad.add (i.toNat * 4)).block, (ad.add (i.toNat * 4)).off + 1, none⟩ = some (.string (ag xs i).f1) ∧ w.cell? ⟨(ad.add (i.toNat * 4)).block, (ad.add (i.toNat * 4)).off + 2, none⟩ = some (.int .i64 (ag xs i).f2) ∧ w.cell? ⟨(ad.add (i.toNat * 4)).block, (ad.add (i.toNat * 4)).off + 3, none⟩ = some (.int .i64 (ag xs i).f3) ∧ w1.cell? (ad.add (i.toNat * 4)) = some (.int .i64 (ag xs i).f0) ∧ w1.cell? ⟨(ad.add (i.toNat * 4)).block, (ad.add (i.toNat * 4)).off + 1, none⟩ = some (.string (ag xs i).f1) ∧ w1.cell? ⟨(ad.add (i.toNat * 4)).block, (ad.add (i.toNat * 4)).off + 2, none⟩ = some (.int .i64 (ag xs i).f2) ∧ w1.cell? ⟨(ad.add (i.toNat * 4)).block, (ad.add (i.toNat * 4)).off + 3, none⟩ = some (.int .i64 (ag xs i).f3) := by
  obtain ⟨ad, e, a0, a1, a2, a3⟩ := eZ h i (of_decide_eq_true h0) (of_decide_eq_true h1)
  exact ⟨eq_true (of_decide_eq_true h0), eq_true (of_decide_eq_true h1), ad, e, a0, a1, a2, a3, ae hb a0, ae hb a1, ae hb a2, ae hb a3⟩
end Go.Proofs.YtkifdadhojbohaaGreatDoor.Pr
