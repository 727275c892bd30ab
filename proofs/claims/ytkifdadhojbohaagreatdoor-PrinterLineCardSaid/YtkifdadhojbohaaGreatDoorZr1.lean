/- Joined out of the texts of this proof that bear the names Rk Rt: what each shows stands over it there. -/
import Derived.Test.YtkifdadhojbohaaGreatDoorZv1
import Derived.Test.YtkifdadhojbohaaGreatDoorZk1
import Derived.Test.YtkifdadhojbohaaGreatDoorRows
import Derived.Lay
import Derived.LaidSub
import Derived.MakeChecks
import Derived.LaidMore
import Derived.ProofKit
import Derived.JoinedOf
import Derived.SevenTiedAt
import Derived.Deep.Slices
import Derived.DataReads
import Derived.DataElems
import Derived.Lib.SmallJoins
import Derived.ChangeArms
set_option linter.unusedVariables false
set_option linter.unusedSimpArgs false
set_option maxHeartbeats 8000000
set_option maxRecDepth 100000
namespace Go.Proofs.YtkifdadhojbohaaGreatDoor.Rk
open Go.RowKit
theorem facts_of (P : Program) (f : FuncId) (fn : Func) (s : ChangeSpec) (c : OpenClaim)
    (h0 : (c.wf (OpenSpec.ofChange s)) = true)
    (h1 : (laidOutB P) = true)
    (h2 : (mapsRowed P) = true)
    (h3 : (fn.params.all (P.readableRec ·)) = true)
    (h4 : (namedTie P c.named s.vars) = true)
    (h5 : ((c.stops == [])) = true)
    (h6 : ((P.stops == [])) = true)
    (h7 : ((c.knobs == [])) = true)
    (h8 : ((P.stopKnobs == [])) = true)
    (h9 : ((c.inPlace == P.inPlace f)) = true)
    (h10 : ((c.unfollowed == P.unfollowed f)) = true)
    (h11 : ((c.recurses == P.recurses f)) = true)
    (h12 : ((c.named == P.varsNamed f)) = true)
    (h13 : ((c.maps == (fn.params.toList ++ s.plain.varTypes P).any (P.mapsRec ·))) = true)
    (h14 : ((c.ifaces == (fn.params.toList ++ s.plain.varTypes P).any (P.ifacesRec ·))) = true)
    (h15 : ((c.mapsOut == P.mapsAmong fn.resultTypes.toList)) = true)
    (h16 : ((c.loops == (fn.params.toList ++ s.plain.varTypes P).any (P.loopsFrom ·))) = true)
    (h17 : ((c.wideKeys == (fn.params.toList ++ s.plain.varTypes P ++ fn.resultTypes.toList).any (P.wideKeysFrom ·))) = true)
    (h18 : (s.vars.all (P.varReadable ·)) = true)
    (h19 : (fn.resultTypes.all (fun t => P.readableRec t && decide (t < P.types.size))) = true)
    (h20 : ((c.ifacesOut == fn.resultTypes.toList.any (P.ifacesRec ·))) = true)
    (h21 : ((c.loopsOut == fn.resultTypes.toList.any (P.loopsFrom ·))) = true)
    (h22 : ((c.plainKeys == P.plainKeys)) = true)
    (h23 : (c.shortTexts.isNone) = true)
    (h24 : (P.stopsHeard) = true)
    (h25 : (P.mayEnter) = true)
    (h26 : ((c.lifted == P.liftsFinal)) = true)
    (h27 : ((P.make == some c.make)) = true)
    (h28 : ((c.kinds == (if c.domain.isEmpty then [] else fn.params.toList.map fun t => match P.underlying t with | some (.int k) => some k | _ => none))) = true)
    (h29 : ((c.pinned == c.pinnedBy)) = true)
    (h30 : ((c.veiled == (fn.params.toList ++ s.plain.varTypes P ++ fn.resultTypes.toList).any (P.veiledRec ·))) = true)
    (h31 : (c.veiledFits P fn.params.toList (fn.params.toList ++ s.plain.varTypes P ++ fn.resultTypes.toList)) = true) : joinedFacts P f fn s c = true := by
  unfold joinedFacts
  simp only [Bool.and_eq_true]
  exact ⟨⟨⟨⟨⟨⟨⟨⟨⟨⟨⟨⟨⟨⟨⟨⟨⟨⟨⟨⟨⟨⟨⟨⟨⟨⟨⟨⟨⟨⟨⟨h0, h1⟩, h2⟩, h3⟩, h4⟩, h5⟩, h6⟩, h7⟩, h8⟩, h9⟩, h10⟩, h11⟩, h12⟩, h13⟩, h14⟩, h15⟩, h16⟩, h17⟩, h18⟩, h19⟩, h20⟩, h21⟩, h22⟩, h23⟩, h24⟩, h25⟩, h26⟩, h27⟩, h28⟩, h29⟩, h30⟩, h31⟩
theorem out_ : laidOutB Tryz.prog = true := by kernel_rfl
theorem rowed_ : mapsRowed Tryz.prog = true := by kernel_rfl
theorem heard_ : Tryz.prog.stopsHeard = true := by kernel_rfl
theorem enter_ : Tryz.prog.mayEnter = true := by kernel_rfl
theorem looks_ : true = Tryz.prog.looks [] := by kernel_rfl
theorem mainIs_ : Tryz.prog.mainIs = some (true, "91c84e077da0f3e7c89b9306fb49b5e0abee8c509dffb0b85426471aa589cd61".toList) := by kernel_rfl
theorem own : ownKnob Tryz.prog.godebug = none := by kernel_rfl
abbrev laidB : List (String × DataW Unit) := Rows.printerLineRow.laid
theorem gl_of {l : List (String × DataW Unit)} {W : World} (h : laidMetH Tryz.prog l W)
    (hl : (l.filter fun x => x.1 == "internal/strconv.uint64pow10") = [("internal/strconv.uint64pow10", Lib.tabData .u64 Lib.pow10Tab)]) : Gl W := by
  have h2 := h.filter (fun x => x.1 == "internal/strconv.uint64pow10")
  rw [hl, MakeChecks.laidMetH_plain _ _ _ (by kernel_rfl)] at h2
  have h3 : Lib.TabIs Tryz.prog W "internal/strconv.uint64pow10" .u64 Lib.pow10Tab :=
    Lib.tabIs_of_head (g := 1) (t := 129) (e := 117) (n := 20) (by kernel_rfl) (by kernel_rfl) (by kernel_rfl) (by kernel_rfl) (by kernel_rfl) (by kernel_rfl) h2
  refine ⟨h3, ?_⟩
  have h4 := h3.cell (g := 1) (by kernel_rfl) 0 (by decide)
  apply Classical.byContradiction
  intro hn
  simp only [World.cell?, Option.isSome_none, Bool.false_eq_true, if_false] at h4
  rw [Array.getElem?_eq_none (by omega)] at h4
  cases h4
theorem gl_B {W : World} (h : laidMetH Tryz.prog laidB W) : Gl W := gl_of h (by kernel_rfl)
noncomputable def wB (os : Os) : World := World.laidAll Tryz.prog os laidB
theorem met_B (os : Os) (args : Array Value) : laidMetH Tryz.prog laidB ((wB os).forCall (fun _ _ => 0) ⟨#[], args, []⟩).memory := by
  rw [MakeChecks.laidMetH_plain _ _ _ (by kernel_rfl)]
  exact laidMet_laidAll args (by kernel_rfl) (by kernel_rfl)
end Go.Proofs.YtkifdadhojbohaaGreatDoor.Rk
namespace Go.Proofs.YtkifdadhojbohaaGreatDoor.Rk
open Go.RowKit Go.Proofs.YtkifdadhojbohaaGreatDoor.Pr Go.Proofs.YtkifdadhojbohaaGreatDoorW.PrintWords Go.ChangeShapes Go.WideShapes
theorem list4 {α : Type} : ∀ {l : List α}, l.length = 4 → ∃ a b c d, l = [a, b, c, d]
  | [a, b, c, d], _ => ⟨a, b, c, d, rfl⟩
theorem list5 {α : Type} : ∀ {l : List α}, l.length = 5 → ∃ a b c d e, l = [a, b, c, d, e]
  | [a, b, c, d, e], _ => ⟨a, b, c, d, e, rfl⟩
section
variable {H : Type} {enc : TypeId × Value → H} {w : World} {base : Nat} {spare : Nat → Bool} {held : Bool}
theorem open_row_of {α : Type} [Inhabited α] (d : Kd α) {t e : TypeId} (ht : Tryz.prog.underlying t = some (.slice e)) (hce : Tryz.prog.cellsOf e = d.sz) {fuel : Nat} {v : Value} {x : DataW H × List MemPlace}
    (h : DataW.trod enc Tryz.prog w base spare held fuel t [v] = some x) (hd : ∀ n cs y, n < fuel → DataW.trod enc Tryz.prog w base spare held n e cs = some y → ∃ p, d.K w p cs) :
    ∃ (A : Option Addr) (T : List α) (c : Nat), v = .slice A T.length c ∧ T.length ≤ c ∧ Kd.C d w A T.length T := by
  rcases DataW.trod_slice ht h with ⟨hv, _⟩ | ⟨a, len, cap, elems, rest, n, hf, hv, _, _, hl, hm, hlen, hel, _, _⟩
  · refine ⟨none, [], 0, (List.cons.inj hv).1, Nat.le_refl _, rfl, by simp, fun h => absurd h (by simp)⟩
  · have hx : ∀ i, i < len → ∃ p : α, ∃ cs, w.cells? base (a.add (i * d.sz)) d.sz = some cs ∧ d.K w p cs := by
      intro i hi
      have h1 := hel i hi
      rw [List.getElem?_eq_getElem (by omega), hce] at h1
      obtain ⟨cs, hc, hy⟩ := Option.bind_eq_some_iff.1 h1
      obtain ⟨p, hp⟩ := hd n cs _ (by omega) hy
      exact ⟨p, cs, hc, hp⟩
    obtain ⟨V, hV⟩ := Deep.choose_lt hx
    have hml : maxLen ≤ 9223372036854775807 := by decide
    refine ⟨some a, (List.range len).map V, cap, ?_, by simpa using hl, by simp, by simp; omega, fun _ => ⟨a, rfl, fun j p hj => ?_⟩⟩
    · rw [(List.cons.inj hv).1]; simp
    · rw [List.getElem?_map] at hj
      obtain ⟨i, hi, rfl⟩ := Option.map_eq_some_iff.1 hj
      have hjl : j < len := by
        have := (List.getElem?_eq_some_iff.1 hi).1
        simpa using this
      rw [List.getElem?_range hjl] at hi
      obtain rfl := Option.some.inj hi
      obtain ⟨cs, hc, hp⟩ := hV j hjl
      obtain ⟨_, hcl, hcell⟩ := World.cells?_some hc
      refine ⟨cs, hcl, hp, fun i u hu => ?_⟩
      have hi : i < d.sz := by rw [← hcl]; exact (List.getElem?_eq_some_iff.1 hu).1
      rw [← Addr.add_add, hcell i hi, hu]
instance : Inhabited S46 := ⟨z46⟩
instance : Inhabited S41 := ⟨z41⟩
theorem tok_of {n : Nat} {cs : List Value} {y : DataW H × List MemPlace} (h : DataW.trod enc Tryz.prog w base spare held n 50 cs = some y) : ∃ p : S46, k46.K w p cs := by
  obtain ⟨y0, y1, y2, y3, m, _, hl, t0, t1, t2, t3⟩ := Joins.trod_struct4 Tryz.underlying50 h
  obtain ⟨b0, e0, _, _⟩ := DataW.trod_int Tryz.underlying3 t0
  obtain ⟨b1, e1, _, _⟩ := DataW.trod_string Tryz.underlying9 t1
  obtain ⟨b2, e2, _, _⟩ := DataW.trod_int Tryz.underlying2 t2
  obtain ⟨b3, e3, _, _⟩ := DataW.trod_int Tryz.underlying3 t3
  have hc : Tryz.prog.cellsOf 50 = 4 := by kernel_rfl
  have c2 : Tryz.prog.cellsOf 2 = 1 := by kernel_rfl
  have c3 : Tryz.prog.cellsOf 3 = 1 := by kernel_rfl
  have c9 : Tryz.prog.cellsOf 9 = 1 := by kernel_rfl
  rw [hc] at hl
  simp only [c2, c3, c9] at e0 e1 e2 e3
  obtain ⟨u0, u1, u2, u3, rfl⟩ := list4 hl
  obtain rfl : u0 = _ := (List.cons.inj e0).1
  obtain rfl : u1 = _ := (List.cons.inj e1).1
  obtain rfl : u2 = _ := (List.cons.inj e2).1
  obtain rfl : u3 = _ := (List.cons.inj e3).1
  exact ⟨⟨b0, b1, b2, b3⟩, k46_mk w ⟨b0, b1, b2, b3⟩⟩
theorem open_tokens {fuel : Nat} {v : Value} {x : DataW H × List MemPlace} (h : DataW.trod enc Tryz.prog w base spare held fuel 22 [v] = some x) :
    ∃ (A : Option Addr) (T : List S46) (c : Nat), v = .slice A T.length c ∧ T.length ≤ c ∧ Kd.C k46 w A T.length T :=
  open_row_of k46 Tryz.underlying22 (by kernel_rfl) h (fun _ _ _ _ hy => tok_of hy)
theorem clause_of : ∀ (n : Nat) (cs : List Value) (y : DataW H × List MemPlace), DataW.trod enc Tryz.prog w base spare held n 25 cs = some y → ∃ p : S41, k41.K w p cs := by
  intro n
  induction n using Nat.strongRecOn with
  | _ n ih =>
    intro cs y h
    obtain ⟨xs, m, hm, _, hl, hxl, hf⟩ := DataW.trod_struct Tryz.underlying25 h
    have hc : Tryz.prog.cellsOf 25 = 5 := by kernel_rfl
    have c3 : Tryz.prog.cellsOf 3 = 1 := by kernel_rfl
    have c4 : Tryz.prog.cellsOf 4 = 1 := by kernel_rfl
    have c9 : Tryz.prog.cellsOf 9 = 1 := by kernel_rfl
    have c23 : Tryz.prog.cellsOf 23 = 1 := by kernel_rfl
    have c31 : Tryz.prog.cellsOf 22 = 1 := by kernel_rfl
    rw [hc] at hl
    obtain ⟨u0, u1, u2, u3, u4, rfl⟩ := list5 hl
    obtain ⟨y0, y1, y2, y3, y4, rfl⟩ := list5 (l := xs) hxl
    ·
      have t0 : DataW.trod enc Tryz.prog w base spare held m 9 (([u0, u1, u2, u3, u4].drop 0).take (Tryz.prog.cellsOf 9)) = some y0 := hf 0 _ rfl
      have t1 : DataW.trod enc Tryz.prog w base spare held m 22 (([u0, u1, u2, u3, u4].drop 1).take (Tryz.prog.cellsOf 22)) = some y1 := hf 1 _ rfl
      have t2 : DataW.trod enc Tryz.prog w base spare held m 4 (([u0, u1, u2, u3, u4].drop 2).take (Tryz.prog.cellsOf 4)) = some y2 := hf 2 _ rfl
      have t3 : DataW.trod enc Tryz.prog w base spare held m 23 (([u0, u1, u2, u3, u4].drop 3).take (Tryz.prog.cellsOf 23)) = some y3 := hf 3 _ rfl
      have t4 : DataW.trod enc Tryz.prog w base spare held m 3 (([u0, u1, u2, u3, u4].drop 4).take (Tryz.prog.cellsOf 3)) = some y4 := hf 4 _ rfl
      rw [c9] at t0
      rw [c31] at t1
      rw [c4] at t2
      rw [c23] at t3
      rw [c3] at t4
      obtain ⟨b0, e0, _, _⟩ := DataW.trod_string Tryz.underlying9 t0
      obtain ⟨A1, T1, c1, e1, l1, g1⟩ := open_tokens t1
      obtain ⟨b2, e2, _⟩ := DataW.trod_bool Tryz.underlying4 t2
      obtain ⟨A3, T3, c3', e3, l3, g3⟩ := open_row_of k41 Tryz.underlying23 (by kernel_rfl) t3 (fun k cs y hk hy => ih k (by omega) cs y hy)
      obtain ⟨b4, e4, _, _⟩ := DataW.trod_int Tryz.underlying3 t4
      obtain rfl : u0 = _ := (List.cons.inj e0).1
      obtain rfl : u1 = _ := e1
      obtain rfl : u2 = _ := (List.cons.inj e2).1
      obtain rfl : u3 = _ := e3
      obtain rfl : u4 = _ := (List.cons.inj e4).1
      exact ⟨⟨b0, T1, b2, T3, b4⟩, k41_mk w ⟨b0, T1, b2, T3, b4⟩ l1 g1 l3 g3⟩
theorem open_clause {r : Reach} {b0 : Nat} {v : Value} {d : DataW H} {p : List MemPlace} (hv : Value.okWide Tryz.prog w r b0 25 v) (h : DataW.Trod enc Tryz.prog w base spare held 25 v d p) :
    ∃ (c : S41) (A1 : Option Addr) (c1 : Nat) (A3 : Option Addr) (c3 : Nat), v = .agg #[.string c.f0, .slice A1 c.f1.length c1, .bool c.f2, .slice A3 c.f3.length c3, .int .i64 c.f4] ∧ c.f1.length ≤ c1 ∧ Kd.C k46 w A1 c.f1.length c.f1 ∧ c.f3.length ≤ c3 ∧ Kd.C k41 w A3 c.f3.length c.f3 := by
  obtain ⟨cs, rfl, hsz⟩ := okWide_struct Tryz.underlying25 hv
  have hc : Tryz.prog.cellsOf 25 = 5 := by kernel_rfl
  obtain ⟨l⟩ := cs
  obtain ⟨u0, u1, u2, u3, u4, rfl⟩ := list5 (l := l) (hsz.trans hc)
  obtain ⟨fuel, hf⟩ := h
  obtain ⟨xs, m, _, _, _, hxl, hg⟩ := DataW.trod_struct Tryz.underlying25 hf
  obtain ⟨y0, y1, y2, y3, y4, rfl⟩ := list5 (l := xs) hxl
  have c3 : Tryz.prog.cellsOf 3 = 1 := by kernel_rfl
  have c4 : Tryz.prog.cellsOf 4 = 1 := by kernel_rfl
  have c9 : Tryz.prog.cellsOf 9 = 1 := by kernel_rfl
  have c23 : Tryz.prog.cellsOf 23 = 1 := by kernel_rfl
  have c31 : Tryz.prog.cellsOf 22 = 1 := by kernel_rfl
  have t0 : DataW.trod enc Tryz.prog w base spare held m 9 (([u0, u1, u2, u3, u4].drop 0).take (Tryz.prog.cellsOf 9)) = some y0 := hg 0 _ rfl
  have t1 : DataW.trod enc Tryz.prog w base spare held m 22 (([u0, u1, u2, u3, u4].drop 1).take (Tryz.prog.cellsOf 22)) = some y1 := hg 1 _ rfl
  have t2 : DataW.trod enc Tryz.prog w base spare held m 4 (([u0, u1, u2, u3, u4].drop 2).take (Tryz.prog.cellsOf 4)) = some y2 := hg 2 _ rfl
  have t3 : DataW.trod enc Tryz.prog w base spare held m 23 (([u0, u1, u2, u3, u4].drop 3).take (Tryz.prog.cellsOf 23)) = some y3 := hg 3 _ rfl
  have t4 : DataW.trod enc Tryz.prog w base spare held m 3 (([u0, u1, u2, u3, u4].drop 4).take (Tryz.prog.cellsOf 3)) = some y4 := hg 4 _ rfl
  rw [c9] at t0
  rw [c31] at t1
  rw [c4] at t2
  rw [c23] at t3
  rw [c3] at t4
  obtain ⟨b0, e0, _, _⟩ := DataW.trod_string Tryz.underlying9 t0
  obtain ⟨A1, T1, c1, e1, l1, g1⟩ := open_tokens t1
  obtain ⟨b2, e2, _⟩ := DataW.trod_bool Tryz.underlying4 t2
  obtain ⟨A3, T3, c3', e3, l3, g3⟩ := open_row_of k41 Tryz.underlying23 (by kernel_rfl) t3 (fun k cs y hk hy => clause_of k cs y hy)
  obtain ⟨b4, e4, _, _⟩ := DataW.trod_int Tryz.underlying3 t4
  obtain rfl : u0 = _ := (List.cons.inj e0).1
  obtain rfl : u1 = _ := e1
  obtain rfl : u2 = _ := (List.cons.inj e2).1
  obtain rfl : u3 = _ := e3
  obtain rfl : u4 = _ := (List.cons.inj e4).1
  exact ⟨⟨b0, T1, b2, T3, b4⟩, A1, c1, A3, c3', rfl, l1, g1, l3, g3⟩
theorem open_clauses {fuel : Nat} {v : Value} {x : DataW H × List MemPlace} (h : DataW.trod enc Tryz.prog w base spare held fuel 23 [v] = some x) :
    ∃ (A : Option Addr) (T : List S41) (c : Nat), v = .slice A T.length c ∧ T.length ≤ c ∧ Kd.C k41 w A T.length T :=
  open_row_of k41 Tryz.underlying23 (by kernel_rfl) h (fun n cs y _ hy => clause_of n cs y hy)
end
end Go.Proofs.YtkifdadhojbohaaGreatDoor.Rk
