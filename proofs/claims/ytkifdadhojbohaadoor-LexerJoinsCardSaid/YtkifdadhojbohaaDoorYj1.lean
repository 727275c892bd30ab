/- Joined out of the texts of this proof that bear the names PrF44 PrF15 PvE Rt RowLexerJoins: what each shows stands over it there. -/
import Derived.Test.YtkifdadhojbohaaDoorYb1
import Derived.Test.YtkifdadhojbohaaDoorYg1
import Derived.Test.YtkifdadhojbohaaDoorYa1
import Derived.Test.YtkifdadhojbohaaDoorYd1
import Derived.Test.YtkifdadhojbohaaDoorYr1
import Derived.Deep.Slices
import Derived.DataReads
import Derived.DataElems
import Derived.Lib.SmallJoins
import Derived.ChangeArms
import Derived.Test.YtkifdadhojbohaaDoorCards
import Derived.Test.YtkifdadhojbohaaDoorTie
import Derived.WalkKit
import Derived.OpenShut
import Derived.ShutString
import Derived.ChangeOld
import Derived.SizedLaws
import Derived.SevenTiedAt
import Derived.Handed
import Derived.LaidLaws
import Derived.Carry
set_option linter.unusedVariables false
set_option linter.unusedSimpArgs false
namespace Go.Proofs.YtkifdadhojbohaaDoor.Pr
open Go.Proofs.YtkifdadhojbohaaDoor
open Go.RowKit Go.Proofs.YtkifdadhojbohaaDoorW.PrintWords Go.Proofs.YtkifdadhojbohaaDoorW.PrintLast Go.Proofs.YtkifdadhojbohaaDoorW.PrintMore
attribute [local go_sem] max2_int min2_int max_two min_two max_three min_three max_four min_four   -- for this text's walks alone
set_option linter.unusedVariables false
set_option linter.unusedSimpArgs false
/-! ### salchowref09_Join: function 44 -/
mutual
def salchowref09_Join.l0 : Nat → List (S46) → ByteArray → Int → Option (ByteArray × Int)
  | 0, _, _, _ => none
  | k + 1, x0, x4, x5 => if x5 < (x0.length : Int) then (if 0 ≤ x5 then ((salchowref09_Valid.f k ((rd_T46 x0 x5).f0) ((rd_T46 x0 x5).f1) ((rd_T46 x0 x5).f2) ((rd_T46 x0 x5).f3)).bind fun t549 => (if t549 = true then (if ((rd_T46 x0 x5).f0) = 5 then (if (wrap64 (x5 + 1)) < (x0.length : Int) then (some ((⟨#[]⟩ : ByteArray), 1)) else (salchowref09_Join.l0 k x0 x4 (wrap64 (x5 + 1)))) else (salchowref09_Join.l0 k x0 x4 (wrap64 (x5 + 1)))) else (some ((⟨#[]⟩ : ByteArray), 1)))) else (none)) else (salchowref09_Join.l1 k x0 x4 0)
def salchowref09_Join.l1 : Nat → List (S46) → ByteArray → Int → Option (ByteArray × Int)
  | 0, _, _, _ => none
  | k + 1, x0, x4, x6 => if x6 < (x0.length : Int) then (if 0 ≤ x6 then (salchowref09_Join.j2 k x0 x4 x6 (((rd_T46 x0 x6).f0) != 5)) else (none)) else (salchowref09_Join.j2 k x0 x4 x6 false)
def salchowref09_Join.j2 : Nat → List (S46) → ByteArray → Int → Bool → Option (ByteArray × Int)
  | 0, _, _, _, _ => none
  | k + 1, x0, x4, x6, x45 => if x45 = true then (if x6 > 0 then (if x4.size + 1 ≤ 9223372036854775807 then (if 0 ≤ x6 then (if x6 < (x0.length : Int) then ((salchowref09_Spell.f k ((rd_T46 x0 x6).f0) ((rd_T46 x0 x6).f1) ((rd_T46 x0 x6).f2) ((rd_T46 x0 x6).f3)).bind fun t553 => (if (x4 ++ (⟨#[32]⟩ : ByteArray)).size + t553.size ≤ 9223372036854775807 then (salchowref09_Join.l1 k x0 ((x4 ++ (⟨#[32]⟩ : ByteArray)) ++ t553) (wrap64 (x6 + 1))) else (none))) else (none)) else (none)) else (none)) else (if 0 ≤ x6 then (if x6 < (x0.length : Int) then ((salchowref09_Spell.f k ((rd_T46 x0 x6).f0) ((rd_T46 x0 x6).f1) ((rd_T46 x0 x6).f2) ((rd_T46 x0 x6).f3)).bind fun t555 => (if x4.size + t555.size ≤ 9223372036854775807 then (salchowref09_Join.l1 k x0 (x4 ++ t555) (wrap64 (x6 + 1))) else (none))) else (none)) else (none))) else (if (x4.size : Int) > 65536 then (some ((⟨#[]⟩ : ByteArray), 6)) else (some (x4, 0)))
end
def salchowref09_Join.f (k : Nat) (l0 : List (S46)) : Option (ByteArray × Int) := salchowref09_Join.l0 k l0 (⟨#[]⟩ : ByteArray) 0
theorem salchowref09_Join.mono_l : ∀ k, (∀ y0 y1 y2, LeO (salchowref09_Join.l0 k y0 y1 y2) (salchowref09_Join.l0 (k + 1) y0 y1 y2)) ∧ (∀ y0 y1 y2, LeO (salchowref09_Join.l1 k y0 y1 y2) (salchowref09_Join.l1 (k + 1) y0 y1 y2)) ∧ (∀ y0 y1 y2 y3, LeO (salchowref09_Join.j2 k y0 y1 y2 y3) (salchowref09_Join.j2 (k + 1) y0 y1 y2 y3))
  | 0 => ⟨fun _ _ _ r h => by simp [salchowref09_Join.l0] at h, fun _ _ _ r h => by simp [salchowref09_Join.l1] at h, fun _ _ _ _ r h => by simp [salchowref09_Join.j2] at h⟩
  | k + 1 => by
    obtain ⟨ih0, ih1, ih2⟩ := salchowref09_Join.mono_l k
    refine ⟨?_, ?_, ?_⟩
    · intro y0 y1 y2
      unfold salchowref09_Join.l0
      repeat' first
      | (with_reducible exact ih0 _ _ _)
      | (with_reducible exact ih1 _ _ _)
      | (with_reducible exact ih2 _ _ _ _)
      | (with_reducible exact salchowref09_Spell.mono _ _ _ _ _)
      | (with_reducible exact salchowref09_Valid.mono _ _ _ _ _)
      | (with_reducible exact LeO.refl _)
      | (with_reducible exact LeO.none _)
      | (with_reducible refine LeO.ite ?_ ?_)
      | (with_reducible refine LeO.bind ?_ (fun _ => ?_))
      | exact ih0 _ _ _
      | exact ih1 _ _ _
      | exact ih2 _ _ _ _
      | exact salchowref09_Spell.mono _ _ _ _ _
      | exact salchowref09_Valid.mono _ _ _ _ _
      | exact LeO.none _
      | refine LeO.ite ?_ ?_
      | refine LeO.bind ?_ (fun _ => ?_)
    · intro y0 y1 y2
      unfold salchowref09_Join.l1
      repeat' first
      | (with_reducible exact ih0 _ _ _)
      | (with_reducible exact ih1 _ _ _)
      | (with_reducible exact ih2 _ _ _ _)
      | (with_reducible exact salchowref09_Spell.mono _ _ _ _ _)
      | (with_reducible exact salchowref09_Valid.mono _ _ _ _ _)
      | (with_reducible exact LeO.refl _)
      | (with_reducible exact LeO.none _)
      | (with_reducible refine LeO.ite ?_ ?_)
      | (with_reducible refine LeO.bind ?_ (fun _ => ?_))
      | exact ih0 _ _ _
      | exact ih1 _ _ _
      | exact ih2 _ _ _ _
      | exact salchowref09_Spell.mono _ _ _ _ _
      | exact salchowref09_Valid.mono _ _ _ _ _
      | exact LeO.none _
      | refine LeO.ite ?_ ?_
      | refine LeO.bind ?_ (fun _ => ?_)
    · intro y0 y1 y2 y3
      unfold salchowref09_Join.j2
      repeat' first
      | (with_reducible exact ih0 _ _ _)
      | (with_reducible exact ih1 _ _ _)
      | (with_reducible exact ih2 _ _ _ _)
      | (with_reducible exact salchowref09_Spell.mono _ _ _ _ _)
      | (with_reducible exact salchowref09_Valid.mono _ _ _ _ _)
      | (with_reducible exact LeO.refl _)
      | (with_reducible exact LeO.none _)
      | (with_reducible refine LeO.ite ?_ ?_)
      | (with_reducible refine LeO.bind ?_ (fun _ => ?_))
      | exact ih0 _ _ _
      | exact ih1 _ _ _
      | exact ih2 _ _ _ _
      | exact salchowref09_Spell.mono _ _ _ _ _
      | exact salchowref09_Valid.mono _ _ _ _ _
      | exact LeO.none _
      | refine LeO.ite ?_ ?_
      | refine LeO.bind ?_ (fun _ => ?_)
theorem salchowref09_Join.mono : ∀ a0 k, LeO (salchowref09_Join.f k a0) (salchowref09_Join.f (k + 1) a0) := by
  intro a0 k
  obtain ⟨ih0, ih1, ih2⟩ := salchowref09_Join.mono_l k
  unfold salchowref09_Join.f
  repeat' first
      | (with_reducible exact ih0 _ _ _)
      | (with_reducible exact ih1 _ _ _)
      | (with_reducible exact ih2 _ _ _ _)
      | (with_reducible exact salchowref09_Spell.mono _ _ _ _ _)
      | (with_reducible exact salchowref09_Valid.mono _ _ _ _ _)
      | (with_reducible exact LeO.refl _)
      | (with_reducible exact LeO.none _)
      | (with_reducible refine LeO.ite ?_ ?_)
      | (with_reducible refine LeO.bind ?_ (fun _ => ?_))
      | exact ih0 _ _ _
      | exact ih1 _ _ _
      | exact ih2 _ _ _ _
      | exact salchowref09_Spell.mono _ _ _ _ _
      | exact salchowref09_Valid.mono _ _ _ _ _
      | exact LeO.none _
      | refine LeO.ite ?_ ?_
      | refine LeO.bind ?_ (fun _ => ?_)
set_option maxHeartbeats 8000000 in
set_option maxRecDepth 100000 in
theorem salchowref09_Join.calls (k : Nat) (A0 : Option Addr) (c0 : Nat) (l0 : List (S46)) (r1 : ByteArray) (r2 : Int) (w : World) (hG : Gl w) (hr0 : Kd.C k46 w A0 l0.length l0) (hc0 : l0.length ≤ c0) (h : salchowref09_Join.f k l0 = some (r1, r2)) :
    Calls Tryd.prog 44 #[.slice A0 l0.length c0] w fun e w' => e = .returned (.tuple #[.string r1, .int .i64 r2]) ∧ Below w.heap.size w w' := by
  have hu46 := Tryd.underlying46
  have HR0 := Aside0.mk hr0
  have HC0 := Aside0.mk hc0
  clear hr0 hc0
  have HB := Aside0.mk (Below.refl w.heap.size w)
  have H : (salchowref09_Join.l0 k l0 (⟨#[]⟩ : ByteArray) 0) = some (r1, r2) := h
  clear h
  have H' := Aside0.mk H
  clear H
  go_enter Tryd.func44, Tryd.ntmps44
  go_wp2
  go_loopg [5] k (fun kq v5 w' => ∃ (x5_1 : Int), v5 = .int .i64 x5_1 ∧ Aside0 (salchowref09_Join.l0 kq l0 (⟨#[]⟩ : ByteArray) x5_1 = some (r1, r2)) ∧ Aside0 (kq ≤ k) ∧ Aside0 (Below w.heap.size w w'))
  case atStart => exact ⟨(0), (by first | rfl | (simp; done) | (simp [*]; done) | (simp <;> rfl)), H', ⟨Nat.le_refl _⟩, ⟨bl_ HB.out⟩⟩
  case round =>
    clear H'
    obtain ⟨x5_1, rfl, HA, HK1, HB⟩ := hrel
    cases gk with
    | zero => exact absurd HA.out (by simp [salchowref09_Join.l0])
    | succ k1 =>
      have H := HA.out
      clear HA
      simp only [salchowref09_Join.l0] at H
      by_cases c2 : x5_1 < (l0.length : Int)
      · rw [if_pos c2] at H
        have c2b0 : decide (x5_1 < (l0.length : Int)) = true := decide_eq_true c2
        clear c2
        by_cases c3 : 0 ≤ x5_1
        · rw [if_pos c3] at H
          have c3b0 : decide (0 ≤ x5_1) = true := decide_eq_true c3
          clear c3
          replace H := Option.bind_eq_some_iff.mp H
          obtain ⟨t549, A40, H⟩ := H
          replace H : (if t549 = true then (if ((rd_T46 l0 x5_1).f0) = 5 then (if (wrap64 (x5_1 + 1)) < (l0.length : Int) then (some ((⟨#[]⟩ : ByteArray), 1)) else (salchowref09_Join.l0 k1 l0 (⟨#[]⟩ : ByteArray) (wrap64 (x5_1 + 1)))) else (salchowref09_Join.l0 k1 l0 (⟨#[]⟩ : ByteArray) (wrap64 (x5_1 + 1)))) else (some ((⟨#[]⟩ : ByteArray), 1))) = some (r1, r2) := H
          have A4 := Aside0.mk A40
          clear A40
          by_cases c5 : t549 = true
          · subst c5
            have H1 : (if ((rd_T46 l0 x5_1).f0) = 5 then (if (wrap64 (x5_1 + 1)) < (l0.length : Int) then (some ((⟨#[]⟩ : ByteArray), 1)) else (salchowref09_Join.l0 k1 l0 (⟨#[]⟩ : ByteArray) (wrap64 (x5_1 + 1)))) else (salchowref09_Join.l0 k1 l0 (⟨#[]⟩ : ByteArray) (wrap64 (x5_1 + 1)))) = some (r1, r2) := by rw [if_pos rfl] at H; exact H
            clear H
            have H := H1
            clear H1
            by_cases c6 : ((rd_T46 l0 x5_1).f0) = 5
            · rw [if_pos c6] at H
              have c6b0 : (((rd_T46 l0 x5_1).f0) == 5) = true := beq_iff_eq.mpr c6
              have c6b1 : (((rd_T46 l0 x5_1).f0) != 5) = false := bne_eq_false_iff_eq.mpr c6
              clear c6
              by_cases c7 : (wrap64 (x5_1 + 1)) < (l0.length : Int)
              · rw [if_pos c7] at H
                have c7b0 : decide ((wrap64 (x5_1 + 1)) < (l0.length : Int)) = true := decide_eq_true c7
                clear c7
                simp only [Option.some.injEq, Prod.mk.injEq] at H
                obtain ⟨rfl, rfl⟩ := H
                have p548 : 0 ≤ (x5_1 : Int) := of_decide_eq_true (by first | (with_reducible assumption) | assumption)
                have q548 : x5_1 < (l0.length : Int) := of_decide_eq_true (by first | (with_reducible assumption) | assumption)
                obtain ⟨ad548, e548, hx548_0, hx548_1, hx548_2, hx548_3⟩ := at_T46 HR0.out x5_1 p548 q548
                cases e548
                replace hx548_0 := (HB.out.cell (World.block_lt_of_cell? w _ hx548_0)).trans hx548_0
                replace hx548_1 := (HB.out.cell (World.block_lt_of_cell? w _ hx548_1)).trans hx548_1
                replace hx548_2 := (HB.out.cell (World.block_lt_of_cell? w _ hx548_2)).trans hx548_2
                replace hx548_3 := (HB.out.cell (World.block_lt_of_cell? w _ hx548_3)).trans hx548_3
                replace p548 := eq_true p548
                replace q548 := eq_true q548
                go_wp2_with (first | ((with_reducible refine gate_callee (f := 37) rfl ?_); refine goesL_ (some 17) rfl rfl Tryd.func37 (by kernel_rfl) rfl #[.agg #[.int .i64 ((rd_T46 l0 x5_1).f0), .string ((rd_T46 l0 x5_1).f1), .int .i64 ((rd_T46 l0 x5_1).f2), .int .i64 ((rd_T46 l0 x5_1).f3)]] rfl (by (try simp only [List.map_toArray, List.map_cons, List.map_nil]); first | done | rfl | (simp only [List.length_drop, List.length_take]; rfl)) ?_; (with_reducible refine (salchowref09_Valid.calls k1 ((rd_T46 l0 x5_1).f0) ((rd_T46 l0 x5_1).f1) ((rd_T46 l0 x5_1).f2) ((rd_T46 l0 x5_1).f3) true _ ?side1 A4.out).mono ?_); (case side1 => exact Gl.below hG (bl_ HB.out)); rintro e w8 ⟨rfl, hb⟩; refine ⟨_, rfl, ?_⟩; have n0_ := Aside0.mk (below_step (bl_ HB.out) hb); clear HB; have HB := n0_; clear n0_; (try clear hb); (try clear hb2); (try clear hk); (try clear hi); have p550 : 0 ≤ (x5_1 : Int) := of_decide_eq_true (by first | (with_reducible assumption) | assumption); have q550 : x5_1 < (l0.length : Int) := of_decide_eq_true (by first | (with_reducible assumption) | assumption); obtain ⟨ad550, e550, hx550_0, hx550_1, hx550_2, hx550_3⟩ := at_T46 HR0.out x5_1 p550 q550; obtain rfl : ad548 = ad550 := (by injection e550); replace hx550_0 := (HB.out.cell (World.block_lt_of_cell? w _ hx550_0)).trans hx550_0; replace hx550_1 := (HB.out.cell (World.block_lt_of_cell? w _ hx550_1)).trans hx550_1; replace hx550_2 := (HB.out.cell (World.block_lt_of_cell? w _ hx550_2)).trans hx550_2; replace hx550_3 := (HB.out.cell (World.block_lt_of_cell? w _ hx550_3)).trans hx550_3; replace p550 := eq_true p550; replace q550 := eq_true q550))
                go_ret2
                exact ⟨er_, bl_ HB.out⟩
              · rw [if_neg c7] at H
                have c7b0 : decide ((wrap64 (x5_1 + 1)) < (l0.length : Int)) = false := decide_eq_false c7
                clear c7
                have H' := Aside0.mk H
                clear H
                have p548 : 0 ≤ (x5_1 : Int) := of_decide_eq_true (by first | (with_reducible assumption) | assumption)
                have q548 : x5_1 < (l0.length : Int) := of_decide_eq_true (by first | (with_reducible assumption) | assumption)
                obtain ⟨ad548, e548, hx548_0, hx548_1, hx548_2, hx548_3⟩ := at_T46 HR0.out x5_1 p548 q548
                cases e548
                replace hx548_0 := (HB.out.cell (World.block_lt_of_cell? w _ hx548_0)).trans hx548_0
                replace hx548_1 := (HB.out.cell (World.block_lt_of_cell? w _ hx548_1)).trans hx548_1
                replace hx548_2 := (HB.out.cell (World.block_lt_of_cell? w _ hx548_2)).trans hx548_2
                replace hx548_3 := (HB.out.cell (World.block_lt_of_cell? w _ hx548_3)).trans hx548_3
                replace p548 := eq_true p548
                replace q548 := eq_true q548
                go_wp2_with (first | ((with_reducible refine gate_callee (f := 37) rfl ?_); refine goesL_ (some 17) rfl rfl Tryd.func37 (by kernel_rfl) rfl #[.agg #[.int .i64 ((rd_T46 l0 x5_1).f0), .string ((rd_T46 l0 x5_1).f1), .int .i64 ((rd_T46 l0 x5_1).f2), .int .i64 ((rd_T46 l0 x5_1).f3)]] rfl (by (try simp only [List.map_toArray, List.map_cons, List.map_nil]); first | done | rfl | (simp only [List.length_drop, List.length_take]; rfl)) ?_; (with_reducible refine (salchowref09_Valid.calls k1 ((rd_T46 l0 x5_1).f0) ((rd_T46 l0 x5_1).f1) ((rd_T46 l0 x5_1).f2) ((rd_T46 l0 x5_1).f3) true _ ?side1 A4.out).mono ?_); (case side1 => exact Gl.below hG (bl_ HB.out)); rintro e w9 ⟨rfl, hb⟩; refine ⟨_, rfl, ?_⟩; have n0_ := Aside0.mk (below_step (bl_ HB.out) hb); clear HB; have HB := n0_; clear n0_; (try clear hb); (try clear hb2); (try clear hk); (try clear hi); have p550 : 0 ≤ (x5_1 : Int) := of_decide_eq_true (by first | (with_reducible assumption) | assumption); have q550 : x5_1 < (l0.length : Int) := of_decide_eq_true (by first | (with_reducible assumption) | assumption); obtain ⟨ad550, e550, hx550_0, hx550_1, hx550_2, hx550_3⟩ := at_T46 HR0.out x5_1 p550 q550; obtain rfl : ad548 = ad550 := (by injection e550); replace hx550_0 := (HB.out.cell (World.block_lt_of_cell? w _ hx550_0)).trans hx550_0; replace hx550_1 := (HB.out.cell (World.block_lt_of_cell? w _ hx550_1)).trans hx550_1; replace hx550_2 := (HB.out.cell (World.block_lt_of_cell? w _ hx550_2)).trans hx550_2; replace hx550_3 := (HB.out.cell (World.block_lt_of_cell? w _ hx550_3)).trans hx550_3; replace p550 := eq_true p550; replace q550 := eq_true q550))
                go_roundg k1
                case measure => have := HK1.out; omega
                case rel => exact ⟨(wrap64 (x5_1 + 1)), (by first | rfl | (simp; done) | (simp [*]; done) | (simp <;> rfl)), H', ⟨by have := HK1.out; omega⟩, ⟨bl_ HB.out⟩⟩
            · rw [if_neg c6] at H
              have c6b0 : (((rd_T46 l0 x5_1).f0) == 5) = false := beq_eq_false_iff_ne.mpr c6
              have c6b1 : (((rd_T46 l0 x5_1).f0) != 5) = true := bne_iff_ne.mpr c6
              have H' := Aside0.mk H
              clear H
              have p548 : 0 ≤ (x5_1 : Int) := of_decide_eq_true (by first | (with_reducible assumption) | assumption)
              have q548 : x5_1 < (l0.length : Int) := of_decide_eq_true (by first | (with_reducible assumption) | assumption)
              obtain ⟨ad548, e548, hx548_0, hx548_1, hx548_2, hx548_3⟩ := at_T46 HR0.out x5_1 p548 q548
              cases e548
              replace hx548_0 := (HB.out.cell (World.block_lt_of_cell? w _ hx548_0)).trans hx548_0
              replace hx548_1 := (HB.out.cell (World.block_lt_of_cell? w _ hx548_1)).trans hx548_1
              replace hx548_2 := (HB.out.cell (World.block_lt_of_cell? w _ hx548_2)).trans hx548_2
              replace hx548_3 := (HB.out.cell (World.block_lt_of_cell? w _ hx548_3)).trans hx548_3
              replace p548 := eq_true p548
              replace q548 := eq_true q548
              go_wp2_with (first | ((with_reducible refine gate_callee (f := 37) rfl ?_); refine goesL_ (some 17) rfl rfl Tryd.func37 (by kernel_rfl) rfl #[.agg #[.int .i64 ((rd_T46 l0 x5_1).f0), .string ((rd_T46 l0 x5_1).f1), .int .i64 ((rd_T46 l0 x5_1).f2), .int .i64 ((rd_T46 l0 x5_1).f3)]] rfl (by (try simp only [List.map_toArray, List.map_cons, List.map_nil]); first | done | rfl | (simp only [List.length_drop, List.length_take]; rfl)) ?_; (with_reducible refine (salchowref09_Valid.calls k1 ((rd_T46 l0 x5_1).f0) ((rd_T46 l0 x5_1).f1) ((rd_T46 l0 x5_1).f2) ((rd_T46 l0 x5_1).f3) true _ ?side1 A4.out).mono ?_); (case side1 => exact Gl.below hG (bl_ HB.out)); rintro e w10 ⟨rfl, hb⟩; refine ⟨_, rfl, ?_⟩; have n0_ := Aside0.mk (below_step (bl_ HB.out) hb); clear HB; have HB := n0_; clear n0_; (try clear hb); (try clear hb2); (try clear hk); (try clear hi); have p550 : 0 ≤ (x5_1 : Int) := of_decide_eq_true (by first | (with_reducible assumption) | assumption); have q550 : x5_1 < (l0.length : Int) := of_decide_eq_true (by first | (with_reducible assumption) | assumption); obtain ⟨ad550, e550, hx550_0, hx550_1, hx550_2, hx550_3⟩ := at_T46 HR0.out x5_1 p550 q550; obtain rfl : ad548 = ad550 := (by injection e550); replace hx550_0 := (HB.out.cell (World.block_lt_of_cell? w _ hx550_0)).trans hx550_0; replace hx550_1 := (HB.out.cell (World.block_lt_of_cell? w _ hx550_1)).trans hx550_1; replace hx550_2 := (HB.out.cell (World.block_lt_of_cell? w _ hx550_2)).trans hx550_2; replace hx550_3 := (HB.out.cell (World.block_lt_of_cell? w _ hx550_3)).trans hx550_3; replace p550 := eq_true p550; replace q550 := eq_true q550))
              go_roundg k1
              case measure => have := HK1.out; omega
              case rel => exact ⟨(wrap64 (x5_1 + 1)), (by first | rfl | (simp; done) | (simp [*]; done) | (simp <;> rfl)), H', ⟨by have := HK1.out; omega⟩, ⟨bl_ HB.out⟩⟩
          · replace c5 := Bool.eq_false_iff.mpr c5
            subst c5
            have H1 : (some ((⟨#[]⟩ : ByteArray), 1)) = some (r1, r2) := by rw [if_neg (show ¬ (false = true) by decide)] at H; exact H
            clear H
            have H := H1
            clear H1
            simp only [Option.some.injEq, Prod.mk.injEq] at H
            obtain ⟨rfl, rfl⟩ := H
            have p548 : 0 ≤ (x5_1 : Int) := of_decide_eq_true (by first | (with_reducible assumption) | assumption)
            have q548 : x5_1 < (l0.length : Int) := of_decide_eq_true (by first | (with_reducible assumption) | assumption)
            obtain ⟨ad548, e548, hx548_0, hx548_1, hx548_2, hx548_3⟩ := at_T46 HR0.out x5_1 p548 q548
            cases e548
            replace hx548_0 := (HB.out.cell (World.block_lt_of_cell? w _ hx548_0)).trans hx548_0
            replace hx548_1 := (HB.out.cell (World.block_lt_of_cell? w _ hx548_1)).trans hx548_1
            replace hx548_2 := (HB.out.cell (World.block_lt_of_cell? w _ hx548_2)).trans hx548_2
            replace hx548_3 := (HB.out.cell (World.block_lt_of_cell? w _ hx548_3)).trans hx548_3
            replace p548 := eq_true p548
            replace q548 := eq_true q548
            go_wp2_with (first | ((with_reducible refine gate_callee (f := 37) rfl ?_); refine goesL_ (some 17) rfl rfl Tryd.func37 (by kernel_rfl) rfl #[.agg #[.int .i64 ((rd_T46 l0 x5_1).f0), .string ((rd_T46 l0 x5_1).f1), .int .i64 ((rd_T46 l0 x5_1).f2), .int .i64 ((rd_T46 l0 x5_1).f3)]] rfl (by (try simp only [List.map_toArray, List.map_cons, List.map_nil]); first | done | rfl | (simp only [List.length_drop, List.length_take]; rfl)) ?_; (with_reducible refine (salchowref09_Valid.calls k1 ((rd_T46 l0 x5_1).f0) ((rd_T46 l0 x5_1).f1) ((rd_T46 l0 x5_1).f2) ((rd_T46 l0 x5_1).f3) false _ ?side1 A4.out).mono ?_); (case side1 => exact Gl.below hG (bl_ HB.out)); rintro e w11 ⟨rfl, hb⟩; refine ⟨_, rfl, ?_⟩; have n0_ := Aside0.mk (below_step (bl_ HB.out) hb); clear HB; have HB := n0_; clear n0_; (try clear hb); (try clear hb2); (try clear hk); (try clear hi)))
            go_ret2
            exact ⟨er_, bl_ HB.out⟩
        · rw [if_neg c3] at H
          exact absurd H (by simp)
      · rw [if_neg c2] at H
        have c2b0 : decide (x5_1 < (l0.length : Int)) = false := decide_eq_false c2
        clear c2
        have H' := Aside0.mk H
        clear H
        go_wp2
        go_loopg [4, 6] k1 (fun kq v4 v6 w' => ∃ (x4_2 : ByteArray) (x6_2 : Int), v4 = .string x4_2 ∧ v6 = .int .i64 x6_2 ∧ Aside0 (salchowref09_Join.l1 kq l0 x4_2 x6_2 = some (r1, r2)) ∧ Aside0 (kq ≤ k1) ∧ Aside0 (Below w.heap.size w w'))
        case atStart => exact ⟨((⟨#[]⟩ : ByteArray)), (0), (by first | rfl | (simp; done) | (simp [*]; done) | (simp <;> rfl)), (by first | rfl | (simp; done) | (simp [*]; done) | (simp <;> rfl)), H', ⟨Nat.le_refl _⟩, ⟨bl_ HB.out⟩⟩
        case round =>
          clear H'
          try clear c2
          try clear c2b0
          try clear p2
          try clear c3
          try clear c3b0
          try clear c4
          try clear c5
          try clear p5
          try clear q5
          try clear hx5
          try clear c6
          try clear c6b0
          try clear c6b1
          try clear p6
          try clear c7
          try clear c7b0
          try clear hx548_0
          try clear hx548_1
          try clear hx548_2
          try clear hx548_3
          try clear hx550_0
          try clear hx550_1
          try clear hx550_2
          try clear hx550_3
          try clear p548
          try clear p550
          try clear q548
          try clear q550
          obtain ⟨x4_2, x6_2, rfl, rfl, HA, HK2, HB⟩ := hrel
          cases gk with
          | zero => exact absurd HA.out (by simp [salchowref09_Join.l1])
          | succ k2 =>
            have H := HA.out
            clear HA
            simp only [salchowref09_Join.l1] at H
            have HC12 := Aside0.mk H
            clear H
            go_upto_region 8 with (fail)
            go_cut [45] (fun v45 wc => ∃ (kq : Nat) (x45_11 : Bool), v45 = .bool x45_11 ∧ Aside0 (salchowref09_Join.j2 kq l0 x4_2 x6_2 x45_11 = some (r1, r2)) ∧ Aside0 (kq ≤ k2) ∧ Aside0 (Below w.heap.size w wc))
            case first =>
              have H := HC12.out
              clear HC12
              by_cases c13 : x6_2 < (l0.length : Int)
              · rw [if_pos c13] at H
                have c13b0 : decide (x6_2 < (l0.length : Int)) = true := decide_eq_true c13
                clear c13
                (first | rw [c13b0] | (simp only [i64_w, i32_w]; rw [c13b0]) | skip)
                by_cases c14 : 0 ≤ x6_2
                · rw [if_pos c14] at H
                  have c14b0 : decide (0 ≤ x6_2) = true := decide_eq_true c14
                  clear c14
                  have H' := Aside0.mk H
                  clear H
                  have p551 : 0 ≤ (x6_2 : Int) := of_decide_eq_true (by first | (with_reducible assumption) | assumption)
                  have q551 : x6_2 < (l0.length : Int) := of_decide_eq_true (by first | (with_reducible assumption) | assumption)
                  obtain ⟨ad551, e551, hx551_0, hx551_1, hx551_2, hx551_3⟩ := at_T46 HR0.out x6_2 p551 q551
                  cases e551
                  replace hx551_0 := (HB.out.cell (World.block_lt_of_cell? w _ hx551_0)).trans hx551_0
                  replace hx551_1 := (HB.out.cell (World.block_lt_of_cell? w _ hx551_1)).trans hx551_1
                  replace hx551_2 := (HB.out.cell (World.block_lt_of_cell? w _ hx551_2)).trans hx551_2
                  replace hx551_3 := (HB.out.cell (World.block_lt_of_cell? w _ hx551_3)).trans hx551_3
                  replace p551 := eq_true p551
                  replace q551 := eq_true q551
                  go_wp2
                  go_meet
                  case rel => exact ⟨_, ((((rd_T46 l0 x6_2).f0) != 5)), (by first | rfl | (simp; done) | (simp [*]; done) | (simp <;> rfl)), H', ⟨by have := HK1.out; have := HK2.out; first | omega | exact Nat.le_refl _⟩, ⟨bl_ HB.out⟩⟩
                · rw [if_neg c14] at H
                  exact absurd H (by simp)
              · rw [if_neg c13] at H
                have c13b0 : decide (x6_2 < (l0.length : Int)) = false := decide_eq_false c13
                clear c13
                (first | rw [c13b0] | (simp only [i64_w, i32_w]; rw [c13b0]) | skip)
                have H' := Aside0.mk H
                clear H
                go_wp2
                go_meet
                case rel => exact ⟨_, (false), (by first | rfl | (simp; done) | (simp [*]; done) | (simp <;> rfl)), H', ⟨by have := HK1.out; have := HK2.out; first | omega | exact Nat.le_refl _⟩, ⟨bl_ HB.out⟩⟩
            case rest =>
              clear HC12
              try clear c1
              try clear c2
              try clear c2b0
              try clear p2
              try clear c3
              try clear c3b0
              try clear c4
              try clear c5
              try clear p5
              try clear q5
              try clear hx5
              try clear c6
              try clear c6b0
              try clear c6b1
              try clear p6
              try clear c7
              try clear c7b0
              try clear c13
              try clear c13b0
              try clear c14
              try clear c14b0
              try clear hx548_0
              try clear hx548_1
              try clear hx548_2
              try clear hx548_3
              try clear hx550_0
              try clear hx550_1
              try clear hx550_2
              try clear hx550_3
              try clear hx551_0
              try clear hx551_1
              try clear hx551_2
              try clear hx551_3
              try clear p2
              try clear p5
              try clear p548
              try clear p550
              try clear p551
              try clear p6
              try clear q5
              try clear q548
              try clear q550
              try clear q551
              obtain ⟨kq, x45_11, rfl, HA, HJ11, HB⟩ := hcut
              cases kq with
              | zero => exact absurd HA.out (by simp [salchowref09_Join.j2])
              | succ kj11 =>
                have H := HA.out
                clear HA
                simp only [salchowref09_Join.j2] at H
                by_cases c15 : x45_11 = true
                · subst c15
                  have H1 : (if x6_2 > 0 then (if x4_2.size + 1 ≤ 9223372036854775807 then (if 0 ≤ x6_2 then (if x6_2 < (l0.length : Int) then ((salchowref09_Spell.f kj11 ((rd_T46 l0 x6_2).f0) ((rd_T46 l0 x6_2).f1) ((rd_T46 l0 x6_2).f2) ((rd_T46 l0 x6_2).f3)).bind fun t553 => (if (x4_2 ++ (⟨#[32]⟩ : ByteArray)).size + t553.size ≤ 9223372036854775807 then (salchowref09_Join.l1 kj11 l0 ((x4_2 ++ (⟨#[32]⟩ : ByteArray)) ++ t553) (wrap64 (x6_2 + 1))) else (none))) else (none)) else (none)) else (none)) else (if 0 ≤ x6_2 then (if x6_2 < (l0.length : Int) then ((salchowref09_Spell.f kj11 ((rd_T46 l0 x6_2).f0) ((rd_T46 l0 x6_2).f1) ((rd_T46 l0 x6_2).f2) ((rd_T46 l0 x6_2).f3)).bind fun t555 => (if x4_2.size + t555.size ≤ 9223372036854775807 then (salchowref09_Join.l1 kj11 l0 (x4_2 ++ t555) (wrap64 (x6_2 + 1))) else (none))) else (none)) else (none))) = some (r1, r2) := by rw [if_pos rfl] at H; exact H
                  clear H
                  have H := H1
                  clear H1
                  by_cases c16 : x6_2 > 0
                  · rw [if_pos c16] at H
                    have c16b0 : decide (0 < x6_2) = true := decide_eq_true c16
                    clear c16
                    by_cases c17 : x4_2.size + 1 ≤ 9223372036854775807
                    · rw [if_pos c17] at H
                      have c17b0 := eq_true c17
                      have c17b1 : decide (x4_2.size + 1 ≤ 9223372036854775807) = true := decide_eq_true c17
                      try have c17b2 : (9223372036854775807 < x4_2.size + 1) = False := eq_false (Nat.not_lt.2 c17)
                      by_cases c18 : 0 ≤ x6_2
                      · rw [if_pos c18] at H
                        have c18b0 : decide (0 ≤ x6_2) = true := decide_eq_true c18
                        clear c18
                        by_cases c19 : x6_2 < (l0.length : Int)
                        · rw [if_pos c19] at H
                          have c19b0 : decide (x6_2 < (l0.length : Int)) = true := decide_eq_true c19
                          clear c19
                          replace H := Option.bind_eq_some_iff.mp H
                          obtain ⟨t553, A200, H⟩ := H
                          replace H : (if (x4_2 ++ (⟨#[32]⟩ : ByteArray)).size + t553.size ≤ 9223372036854775807 then (salchowref09_Join.l1 kj11 l0 ((x4_2 ++ (⟨#[32]⟩ : ByteArray)) ++ t553) (wrap64 (x6_2 + 1))) else (none)) = some (r1, r2) := H
                          have A20 := Aside0.mk A200
                          clear A200
                          by_cases c21 : (x4_2 ++ (⟨#[32]⟩ : ByteArray)).size + t553.size ≤ 9223372036854775807
                          · rw [if_pos c21] at H
                            have c21b0 := eq_true c21
                            have c21b1 : decide ((x4_2 ++ (⟨#[32]⟩ : ByteArray)).size + t553.size ≤ 9223372036854775807) = true := decide_eq_true c21
                            (try (have c21b3 : (9223372036854775807 < x4_2.size + 1 + t553.size) = False := eq_false (Nat.not_lt.2 (by have h_ := c21; simp only [ByteArray.size_append] at h_; exact h_))))
                            (try (have c21b4 : (x4_2.size + 1 + t553.size ≤ 9223372036854775807) = True := eq_true (by have h_ := c21; simp only [ByteArray.size_append] at h_; exact h_)))
                            try have c21b2 : (9223372036854775807 < (x4_2 ++ (⟨#[32]⟩ : ByteArray)).size + t553.size) = False := eq_false (Nat.not_lt.2 c21)
                            have H' := Aside0.mk H
                            clear H
                            have p552 : 0 ≤ (x6_2 : Int) := of_decide_eq_true (by first | (with_reducible assumption) | assumption)
                            have q552 : x6_2 < (l0.length : Int) := of_decide_eq_true (by first | (with_reducible assumption) | assumption)
                            obtain ⟨ad552, e552, hx552_0, hx552_1, hx552_2, hx552_3⟩ := at_T46 HR0.out x6_2 p552 q552
                            cases e552
                            replace hx552_0 := (HB.out.cell (World.block_lt_of_cell? w _ hx552_0)).trans hx552_0
                            replace hx552_1 := (HB.out.cell (World.block_lt_of_cell? w _ hx552_1)).trans hx552_1
                            replace hx552_2 := (HB.out.cell (World.block_lt_of_cell? w _ hx552_2)).trans hx552_2
                            replace hx552_3 := (HB.out.cell (World.block_lt_of_cell? w _ hx552_3)).trans hx552_3
                            replace p552 := eq_true p552
                            replace q552 := eq_true q552
                            go_wp2_with (first | ((with_reducible refine gate_callee (f := 38) rfl ?_); refine goesL_ (some 57) rfl rfl Tryd.func38 (by kernel_rfl) rfl #[.agg #[.int .i64 ((rd_T46 l0 x6_2).f0), .string ((rd_T46 l0 x6_2).f1), .int .i64 ((rd_T46 l0 x6_2).f2), .int .i64 ((rd_T46 l0 x6_2).f3)]] rfl (by (try simp only [List.map_toArray, List.map_cons, List.map_nil]); first | done | rfl | (simp only [List.length_drop, List.length_take]; rfl)) ?_; (with_reducible refine (salchowref09_Spell.calls kj11 ((rd_T46 l0 x6_2).f0) ((rd_T46 l0 x6_2).f1) ((rd_T46 l0 x6_2).f2) ((rd_T46 l0 x6_2).f3) t553 _ ?side1 A20.out).mono ?_); (case side1 => exact Gl.below hG (bl_ HB.out)); rintro e w22 ⟨rfl, hb⟩; refine ⟨_, rfl, ?_⟩; have n0_ := Aside0.mk (below_step (bl_ HB.out) hb); clear HB; have HB := n0_; clear n0_; (try clear hb); (try clear hb2); (try clear hk); (try clear hi)))
                            go_roundg kj11
                            case measure => have := HK1.out; have := HK2.out; have := HJ11.out; omega
                            case rel => exact ⟨((x4_2 ++ (⟨#[32]⟩ : ByteArray)) ++ t553), (wrap64 (x6_2 + 1)), (by first | rfl | (simp; done) | (simp [*]; done) | (simp <;> rfl)), (by first | rfl | (simp; done) | (simp [*]; done) | (simp <;> rfl)), H', ⟨by have := HK1.out; have := HK2.out; have := HJ11.out; omega⟩, ⟨bl_ HB.out⟩⟩
                          · rw [if_neg c21] at H
                            exact absurd H (by simp)
                        · rw [if_neg c19] at H
                          exact absurd H (by simp)
                      · rw [if_neg c18] at H
                        exact absurd H (by simp)
                    · rw [if_neg c17] at H
                      exact absurd H (by simp)
                  · rw [if_neg c16] at H
                    have c16b0 : decide (0 < x6_2) = false := decide_eq_false c16
                    clear c16
                    by_cases c23 : 0 ≤ x6_2
                    · rw [if_pos c23] at H
                      have c23b0 : decide (0 ≤ x6_2) = true := decide_eq_true c23
                      clear c23
                      by_cases c24 : x6_2 < (l0.length : Int)
                      · rw [if_pos c24] at H
                        have c24b0 : decide (x6_2 < (l0.length : Int)) = true := decide_eq_true c24
                        clear c24
                        replace H := Option.bind_eq_some_iff.mp H
                        obtain ⟨t555, A250, H⟩ := H
                        replace H : (if x4_2.size + t555.size ≤ 9223372036854775807 then (salchowref09_Join.l1 kj11 l0 (x4_2 ++ t555) (wrap64 (x6_2 + 1))) else (none)) = some (r1, r2) := H
                        have A25 := Aside0.mk A250
                        clear A250
                        by_cases c26 : x4_2.size + t555.size ≤ 9223372036854775807
                        · rw [if_pos c26] at H
                          have c26b0 := eq_true c26
                          have c26b1 : decide (x4_2.size + t555.size ≤ 9223372036854775807) = true := decide_eq_true c26
                          try have c26b2 : (9223372036854775807 < x4_2.size + t555.size) = False := eq_false (Nat.not_lt.2 c26)
                          have H' := Aside0.mk H
                          clear H
                          have p554 : 0 ≤ (x6_2 : Int) := of_decide_eq_true (by first | (with_reducible assumption) | assumption)
                          have q554 : x6_2 < (l0.length : Int) := of_decide_eq_true (by first | (with_reducible assumption) | assumption)
                          obtain ⟨ad554, e554, hx554_0, hx554_1, hx554_2, hx554_3⟩ := at_T46 HR0.out x6_2 p554 q554
                          cases e554
                          replace hx554_0 := (HB.out.cell (World.block_lt_of_cell? w _ hx554_0)).trans hx554_0
                          replace hx554_1 := (HB.out.cell (World.block_lt_of_cell? w _ hx554_1)).trans hx554_1
                          replace hx554_2 := (HB.out.cell (World.block_lt_of_cell? w _ hx554_2)).trans hx554_2
                          replace hx554_3 := (HB.out.cell (World.block_lt_of_cell? w _ hx554_3)).trans hx554_3
                          replace p554 := eq_true p554
                          replace q554 := eq_true q554
                          go_wp2_with (first | ((with_reducible refine gate_callee (f := 38) rfl ?_); refine goesL_ (some 57) rfl rfl Tryd.func38 (by kernel_rfl) rfl #[.agg #[.int .i64 ((rd_T46 l0 x6_2).f0), .string ((rd_T46 l0 x6_2).f1), .int .i64 ((rd_T46 l0 x6_2).f2), .int .i64 ((rd_T46 l0 x6_2).f3)]] rfl (by (try simp only [List.map_toArray, List.map_cons, List.map_nil]); first | done | rfl | (simp only [List.length_drop, List.length_take]; rfl)) ?_; (with_reducible refine (salchowref09_Spell.calls kj11 ((rd_T46 l0 x6_2).f0) ((rd_T46 l0 x6_2).f1) ((rd_T46 l0 x6_2).f2) ((rd_T46 l0 x6_2).f3) t555 _ ?side1 A25.out).mono ?_); (case side1 => exact Gl.below hG (bl_ HB.out)); rintro e w27 ⟨rfl, hb⟩; refine ⟨_, rfl, ?_⟩; have n0_ := Aside0.mk (below_step (bl_ HB.out) hb); clear HB; have HB := n0_; clear n0_; (try clear hb); (try clear hb2); (try clear hk); (try clear hi)))
                          go_roundg kj11
                          case measure => have := HK1.out; have := HK2.out; have := HJ11.out; omega
                          case rel => exact ⟨(x4_2 ++ t555), (wrap64 (x6_2 + 1)), (by first | rfl | (simp; done) | (simp [*]; done) | (simp <;> rfl)), (by first | rfl | (simp; done) | (simp [*]; done) | (simp <;> rfl)), H', ⟨by have := HK1.out; have := HK2.out; have := HJ11.out; omega⟩, ⟨bl_ HB.out⟩⟩
                        · rw [if_neg c26] at H
                          exact absurd H (by simp)
                      · rw [if_neg c24] at H
                        exact absurd H (by simp)
                    · rw [if_neg c23] at H
                      exact absurd H (by simp)
                · replace c15 := Bool.eq_false_iff.mpr c15
                  subst c15
                  have H1 : (if (x4_2.size : Int) > 65536 then (some ((⟨#[]⟩ : ByteArray), 6)) else (some (x4_2, 0))) = some (r1, r2) := by rw [if_neg (show ¬ (false = true) by decide)] at H; exact H
                  clear H
                  have H := H1
                  clear H1
                  by_cases c28 : (x4_2.size : Int) > 65536
                  · rw [if_pos c28] at H
                    have c28b0 : decide (65536 < (x4_2.size : Int)) = true := decide_eq_true c28
                    have c28b1 : decide (65536 < x4_2.size) = true := decide_eq_true (by omega)
                    clear c28
                    simp only [Option.some.injEq, Prod.mk.injEq] at H
                    obtain ⟨rfl, rfl⟩ := H
                    go_wp2
                    go_ret2
                    exact ⟨er_, bl_ HB.out⟩
                  · rw [if_neg c28] at H
                    have c28b0 : decide (65536 < (x4_2.size : Int)) = false := decide_eq_false c28
                    have c28b1 : decide (65536 < x4_2.size) = false := decide_eq_false (by omega)
                    clear c28
                    simp only [Option.some.injEq, Prod.mk.injEq] at H
                    obtain ⟨rfl, rfl⟩ := H
                    go_wp2
                    go_ret2
                    exact ⟨er_, bl_ HB.out⟩
end Go.Proofs.YtkifdadhojbohaaDoor.Pr
namespace Go.Proofs.YtkifdadhojbohaaDoor.Pr
open Go.Proofs.YtkifdadhojbohaaDoor
open Go.RowKit Go.Proofs.YtkifdadhojbohaaDoorW.PrintWords Go.Proofs.YtkifdadhojbohaaDoorW.PrintLast Go.Proofs.YtkifdadhojbohaaDoorW.PrintMore
attribute [local go_sem] max2_int min2_int max_two min_two max_three min_three max_four min_four   -- for this text's walks alone
set_option linter.unusedVariables false
set_option linter.unusedSimpArgs false
/-! ### salchowlaw09_LexerJoins: function 15 -/
def salchowlaw09_LexerJoins.l0 : Nat → List (S46) → Int → Option (Bool)
  | 0, _, _ => none
  | k + 1, x0, x3 => if x3 < (x0.length : Int) then (if 0 ≤ x3 then (if (((rd_T46 x0 x3).f1).size : Int) > 100 then ((salchowlaw09_awake.f k).bind fun t281 => (some t281)) else (salchowlaw09_LexerJoins.l0 k x0 (wrap64 (x3 + 1)))) else (none)) else ((lexer_Join.f k x0).bind fun bt282 => ((salchowref09_Join.f k x0).bind fun bt284 => ((salchowlaw09_awake.f k).bind fun t286 => (if t286 = true then (if bt282.2 = bt284.2 then (some (bt282.1.toList == bt284.1.toList)) else (none)) else (none)))))
def salchowlaw09_LexerJoins.f (k : Nat) (l0 : List (S46)) : Option (Bool) := if (l0.length : Int) > 40 then ((salchowlaw09_awake.f k).bind fun t279 => (some t279)) else (salchowlaw09_LexerJoins.l0 k l0 0)
theorem salchowlaw09_LexerJoins.mono_l : ∀ k, (∀ y0 y1, LeO (salchowlaw09_LexerJoins.l0 k y0 y1) (salchowlaw09_LexerJoins.l0 (k + 1) y0 y1))
  | 0 => fun _ _ r h => by simp [salchowlaw09_LexerJoins.l0] at h
  | k + 1 => by
    have ih0 := salchowlaw09_LexerJoins.mono_l k
    · intro y0 y1
      unfold salchowlaw09_LexerJoins.l0
      repeat' first
      | (with_reducible exact ih0 _ _)
      | (with_reducible exact lexer_Join.mono _ _)
      | (with_reducible exact salchowlaw09_awake.mono _)
      | (with_reducible exact salchowref09_Join.mono _ _)
      | (with_reducible exact LeO.refl _)
      | (with_reducible exact LeO.none _)
      | (with_reducible refine LeO.ite ?_ ?_)
      | (with_reducible refine LeO.bind ?_ (fun _ => ?_))
      | exact ih0 _ _
      | exact lexer_Join.mono _ _
      | exact salchowlaw09_awake.mono _
      | exact salchowref09_Join.mono _ _
      | exact LeO.none _
      | refine LeO.ite ?_ ?_
      | refine LeO.bind ?_ (fun _ => ?_)
theorem salchowlaw09_LexerJoins.mono : ∀ a0 k, LeO (salchowlaw09_LexerJoins.f k a0) (salchowlaw09_LexerJoins.f (k + 1) a0) := by
  intro a0 k
  have ih0 := salchowlaw09_LexerJoins.mono_l k
  unfold salchowlaw09_LexerJoins.f
  repeat' first
      | (with_reducible exact ih0 _ _)
      | (with_reducible exact lexer_Join.mono _ _)
      | (with_reducible exact salchowlaw09_awake.mono _)
      | (with_reducible exact salchowref09_Join.mono _ _)
      | (with_reducible exact LeO.refl _)
      | (with_reducible exact LeO.none _)
      | (with_reducible refine LeO.ite ?_ ?_)
      | (with_reducible refine LeO.bind ?_ (fun _ => ?_))
      | exact ih0 _ _
      | exact lexer_Join.mono _ _
      | exact salchowlaw09_awake.mono _
      | exact salchowref09_Join.mono _ _
      | exact LeO.none _
      | refine LeO.ite ?_ ?_
      | refine LeO.bind ?_ (fun _ => ?_)
set_option maxHeartbeats 8000000 in
set_option maxRecDepth 100000 in
theorem salchowlaw09_LexerJoins.calls (k : Nat) (A0 : Option Addr) (c0 : Nat) (l0 : List (S46)) (r : Bool) (w : World) (hG : Gl w) (hr0 : Kd.C k46 w A0 l0.length l0) (hc0 : l0.length ≤ c0) (h : salchowlaw09_LexerJoins.f k l0 = some r) :
    Calls Tryd.prog 15 #[.slice A0 l0.length c0] w fun e w' => e = .returned (.bool r) ∧ Below w.heap.size w w' := by
  have HR0 := Aside0.mk hr0
  have HC0 := Aside0.mk hc0
  clear hr0 hc0
  have HB := Aside0.mk (Below.refl w.heap.size w)
  have H : (if (l0.length : Int) > 40 then ((salchowlaw09_awake.f k).bind fun t279 => (some t279)) else (salchowlaw09_LexerJoins.l0 k l0 0)) = some r := h
  clear h
  by_cases c2 : (l0.length : Int) > 40
  · rw [if_pos c2] at H
    have c2b0 : decide (40 < (l0.length : Int)) = true := decide_eq_true c2
    have c2b1 : decide (40 < l0.length) = true := decide_eq_true (by omega)
    clear c2
    replace H := Option.bind_eq_some_iff.mp H
    obtain ⟨t279, A30, H⟩ := H
    replace H : (some t279) = some r := H
    have A3 := Aside0.mk A30
    clear A30
    obtain rfl := Option.some.inj H
    go_enter Tryd.func15, Tryd.ntmps15
    go_wp2_with (first | ((with_reducible refine gate_callee (f := 32) rfl ?_); refine goesL_ (some 11) rfl rfl Tryd.func32 (by kernel_rfl) rfl #[] rfl (by (try simp only [List.map_toArray, List.map_cons, List.map_nil]); first | done | rfl | (simp only [List.length_drop, List.length_take]; rfl)) ?_; (with_reducible refine (salchowlaw09_awake.calls k  t279 _ ?side1 A3.out).mono ?_); (case side1 => exact Gl.below hG (bl_ HB.out)); rintro e w4 ⟨rfl, hb⟩; refine ⟨_, rfl, ?_⟩; have n0_ := Aside0.mk (below_step (bl_ HB.out) hb); clear HB; have HB := n0_; clear n0_; (try clear hb); (try clear hb2); (try clear hk); (try clear hi)))
    go_ret
    exact ⟨er_, bl_ HB.out⟩
  · rw [if_neg c2] at H
    have c2b0 : decide (40 < (l0.length : Int)) = false := decide_eq_false c2
    have c2b1 : decide (40 < l0.length) = false := decide_eq_false (by omega)
    clear c2
    have H' := Aside0.mk H
    clear H
    go_enter Tryd.func15, Tryd.ntmps15
    go_wp2
    go_loopg [3] k (fun kq v3 w' => ∃ (x3_1 : Int), v3 = .int .i64 x3_1 ∧ Aside0 (salchowlaw09_LexerJoins.l0 kq l0 x3_1 = some r) ∧ Aside0 (kq ≤ k) ∧ Aside0 (Below w.heap.size w w'))
    case atStart => exact ⟨(0), (by first | rfl | (simp; done) | (simp [*]; done) | (simp <;> rfl)), H', ⟨Nat.le_refl _⟩, ⟨bl_ HB.out⟩⟩
    case round =>
      clear H'
      try clear c1
      try clear c2
      try clear c2b0
      try clear c2b1
      try clear p2
      try clear c3
      obtain ⟨x3_1, rfl, HA, HK1, HB⟩ := hrel
      cases gk with
      | zero => exact absurd HA.out (by simp [salchowlaw09_LexerJoins.l0])
      | succ k1 =>
        have H := HA.out
        clear HA
        simp only [salchowlaw09_LexerJoins.l0] at H
        by_cases c5 : x3_1 < (l0.length : Int)
        · rw [if_pos c5] at H
          have c5b0 : decide (x3_1 < (l0.length : Int)) = true := decide_eq_true c5
          clear c5
          by_cases c6 : 0 ≤ x3_1
          · rw [if_pos c6] at H
            have c6b0 : decide (0 ≤ x3_1) = true := decide_eq_true c6
            clear c6
            by_cases c7 : (((rd_T46 l0 x3_1).f1).size : Int) > 100
            · rw [if_pos c7] at H
              have c7b0 : decide (100 < (((rd_T46 l0 x3_1).f1).size : Int)) = true := decide_eq_true c7
              have c7b1 : decide (100 < ((rd_T46 l0 x3_1).f1).size) = true := decide_eq_true (by omega)
              clear c7
              replace H := Option.bind_eq_some_iff.mp H
              obtain ⟨t281, A80, H⟩ := H
              replace H : (some t281) = some r := H
              have A8 := Aside0.mk A80
              clear A80
              obtain rfl := Option.some.inj H
              have p280 : 0 ≤ (x3_1 : Int) := of_decide_eq_true (by first | (with_reducible assumption) | assumption)
              have q280 : x3_1 < (l0.length : Int) := of_decide_eq_true (by first | (with_reducible assumption) | assumption)
              obtain ⟨ad280, e280, hx280_0, hx280_1, hx280_2, hx280_3⟩ := at_T46 HR0.out x3_1 p280 q280
              cases e280
              replace hx280_0 := (HB.out.cell (World.block_lt_of_cell? w _ hx280_0)).trans hx280_0
              replace hx280_1 := (HB.out.cell (World.block_lt_of_cell? w _ hx280_1)).trans hx280_1
              replace hx280_2 := (HB.out.cell (World.block_lt_of_cell? w _ hx280_2)).trans hx280_2
              replace hx280_3 := (HB.out.cell (World.block_lt_of_cell? w _ hx280_3)).trans hx280_3
              replace p280 := eq_true p280
              replace q280 := eq_true q280
              go_wp2_with (first | ((with_reducible refine gate_callee (f := 32) rfl ?_); refine goesL_ (some 25) rfl rfl Tryd.func32 (by kernel_rfl) rfl #[] rfl (by (try simp only [List.map_toArray, List.map_cons, List.map_nil]); first | done | rfl | (simp only [List.length_drop, List.length_take]; rfl)) ?_; (with_reducible refine (salchowlaw09_awake.calls k1  t281 _ ?side1 A8.out).mono ?_); (case side1 => exact Gl.below hG (bl_ HB.out)); rintro e w9 ⟨rfl, hb⟩; refine ⟨_, rfl, ?_⟩; have n0_ := Aside0.mk (below_step (bl_ HB.out) hb); clear HB; have HB := n0_; clear n0_; (try clear hb); (try clear hb2); (try clear hk); (try clear hi)))
              go_ret
              exact ⟨er_, bl_ HB.out⟩
            · rw [if_neg c7] at H
              have c7b0 : decide (100 < (((rd_T46 l0 x3_1).f1).size : Int)) = false := decide_eq_false c7
              have c7b1 : decide (100 < ((rd_T46 l0 x3_1).f1).size) = false := decide_eq_false (by omega)
              clear c7
              have H' := Aside0.mk H
              clear H
              have p280 : 0 ≤ (x3_1 : Int) := of_decide_eq_true (by first | (with_reducible assumption) | assumption)
              have q280 : x3_1 < (l0.length : Int) := of_decide_eq_true (by first | (with_reducible assumption) | assumption)
              obtain ⟨ad280, e280, hx280_0, hx280_1, hx280_2, hx280_3⟩ := at_T46 HR0.out x3_1 p280 q280
              cases e280
              replace hx280_0 := (HB.out.cell (World.block_lt_of_cell? w _ hx280_0)).trans hx280_0
              replace hx280_1 := (HB.out.cell (World.block_lt_of_cell? w _ hx280_1)).trans hx280_1
              replace hx280_2 := (HB.out.cell (World.block_lt_of_cell? w _ hx280_2)).trans hx280_2
              replace hx280_3 := (HB.out.cell (World.block_lt_of_cell? w _ hx280_3)).trans hx280_3
              replace p280 := eq_true p280
              replace q280 := eq_true q280
              go_wp2
              go_roundg k1
              case measure => have := HK1.out; omega
              case rel => exact ⟨(wrap64 (x3_1 + 1)), (by first | rfl | (simp; done) | (simp [*]; done) | (simp <;> rfl)), H', ⟨by have := HK1.out; omega⟩, ⟨bl_ HB.out⟩⟩
          · rw [if_neg c6] at H
            exact absurd H (by simp)
        · rw [if_neg c5] at H
          have c5b0 : decide (x3_1 < (l0.length : Int)) = false := decide_eq_false c5
          clear c5
          replace H := Option.bind_eq_some_iff.mp H
          obtain ⟨⟨t282, t283⟩, A100, H⟩ := H
          replace H : ((salchowref09_Join.f k1 l0).bind fun bt284 => ((salchowlaw09_awake.f k1).bind fun t286 => (if t286 = true then (if t283 = bt284.2 then (some (t282.toList == bt284.1.toList)) else (none)) else (none)))) = some r := H
          have A10 := Aside0.mk A100
          clear A100
          replace H := Option.bind_eq_some_iff.mp H
          obtain ⟨⟨t284, t285⟩, A110, H⟩ := H
          replace H : ((salchowlaw09_awake.f k1).bind fun t286 => (if t286 = true then (if t283 = t285 then (some (t282.toList == t284.toList)) else (none)) else (none))) = some r := H
          have A11 := Aside0.mk A110
          clear A110
          replace H := Option.bind_eq_some_iff.mp H
          obtain ⟨t286, A120, H⟩ := H
          replace H : (if t286 = true then (if t283 = t285 then (some (t282.toList == t284.toList)) else (none)) else (none)) = some r := H
          have A12 := Aside0.mk A120
          clear A120
          by_cases c13 : t286 = true
          · subst c13
            have H1 : (if t283 = t285 then (some (t282.toList == t284.toList)) else (none)) = some r := by rw [if_pos rfl] at H; exact H
            clear H
            have H := H1
            clear H1
            by_cases c14 : t283 = t285
            · rw [if_pos c14] at H
              have c14b0 : (t283 == t285) = true := beq_iff_eq.mpr c14
              have c14b1 : (t283 != t285) = false := bne_eq_false_iff_eq.mpr c14
              clear c14
              obtain rfl := Option.some.inj H
              go_wp2_with (first | ((with_reducible refine gate_callee (f := 43) rfl ?_); refine goesL_ (some 28) rfl rfl Tryd.func43 (by kernel_rfl) rfl #[.slice A0 l0.length c0] rfl (by (try simp only [List.map_toArray, List.map_cons, List.map_nil]); first | done | rfl | (simp only [List.length_drop, List.length_take]; rfl)) ?_; (with_reducible refine (lexer_Join.calls k1 _ _ l0 t282 t283 _ ?side1 ?side2 ?side3 A10.out).mono ?_); (case side1 => exact Gl.below hG (bl_ HB.out)); (case side2 => repeat (first | exact (Kd.C_below HR0.out HB.out) | (with_reducible refine Kd.C_alloc ?_ _) | (with_reducible refine Kd.C_drewN ?_ _) | (with_reducible refine Kd.C_drew ?_))); (case side3 => exact HC0.out); rintro e w15 ⟨rfl, hb⟩; refine ⟨_, rfl, ?_⟩; have n0_ := Aside0.mk (below_step (bl_ HB.out) hb); clear HB; have HB := n0_; clear n0_; (try clear hb); (try clear hb2); (try clear hk); (try clear hi)) | ((with_reducible refine gate_callee (f := 44) rfl ?_); refine goesL_ (some 33) rfl rfl Tryd.func44 (by kernel_rfl) rfl #[.slice A0 l0.length c0] rfl (by (try simp only [List.map_toArray, List.map_cons, List.map_nil]); first | done | rfl | (simp only [List.length_drop, List.length_take]; rfl)) ?_; (with_reducible refine (salchowref09_Join.calls k1 _ _ l0 t284 t285 _ ?side1 ?side2 ?side3 A11.out).mono ?_); (case side1 => exact Gl.below hG (bl_ HB.out)); (case side2 => repeat (first | exact (Kd.C_below HR0.out HB.out) | (with_reducible refine Kd.C_alloc ?_ _) | (with_reducible refine Kd.C_drewN ?_ _) | (with_reducible refine Kd.C_drew ?_))); (case side3 => exact HC0.out); rintro e w16 ⟨rfl, hb⟩; refine ⟨_, rfl, ?_⟩; have n0_ := Aside0.mk (below_step (bl_ HB.out) hb); clear HB; have HB := n0_; clear n0_; (try clear hb); (try clear hb2); (try clear hk); (try clear hi)) | ((with_reducible refine gate_callee (f := 32) rfl ?_); refine goesL_ (some 36) rfl rfl Tryd.func32 (by kernel_rfl) rfl #[] rfl (by (try simp only [List.map_toArray, List.map_cons, List.map_nil]); first | done | rfl | (simp only [List.length_drop, List.length_take]; rfl)) ?_; (with_reducible refine (salchowlaw09_awake.calls k1  true _ ?side1 A12.out).mono ?_); (case side1 => exact Gl.below hG (bl_ HB.out)); rintro e w17 ⟨rfl, hb⟩; refine ⟨_, rfl, ?_⟩; have n0_ := Aside0.mk (below_step (bl_ HB.out) hb); clear HB; have HB := n0_; clear n0_; (try clear hb); (try clear hb2); (try clear hk); (try clear hi)))
              go_ret
              exact ⟨er_, bl_ HB.out⟩
            · rw [if_neg c14] at H
              exact absurd H (by simp)
          · replace c13 := Bool.eq_false_iff.mpr c13
            subst c13
            have H1 : (none) = some r := by rw [if_neg (show ¬ (false = true) by decide)] at H; exact H
            clear H
            have H := H1
            clear H1
            exact absurd H (by simp)
end Go.Proofs.YtkifdadhojbohaaDoor.Pr
namespace Go.Proofs.YtkifdadhojbohaaDoor.Pu
open Go.RowKit Go.Proofs.YtkifdadhojbohaaDoor Go.Proofs.YtkifdadhojbohaaDoor.Pr Go.Proofs.YtkifdadhojbohaaDoorW.PrintWords Go.Proofs.YtkifdadhojbohaaDoorW.PrintLast
theorem rjoin_f (T : List S46) (hT : T.length ≤ 3000) (hB : ∀ t ∈ T, t.f1.size ≤ 3000) : Ev (fun k => salchowref09_Join.f k T) (joinAns T) := by
  have second : badL T = false → ∀ (d i : Nat) (l : List S46), i ≤ T.length → T.length - i = d → T.drop i = l → badL l = false → (∀ t ∈ T.take i, t.f0 ≠ 5) →
      Ev (fun k => salchowref09_Join.l1 k T (str (Lib.join ((T.take i).map spT) [32])) i) (finJ (partsL T)) := by
    intro hb d
    have stop : ∀ i l, i ≤ T.length → T.drop i = l → (∀ t ∈ T.take i, t.f0 ≠ 5) → partsL l = [] → Ev (fun k => salchowref09_Join.j2 k T (str (Lib.join ((T.take i).map spT) [32])) i false) (finJ (partsL T)) := by
      intro i l hi hl hne hp
      refine Ev.succ ?_
      simp only [salchowref09_Join.j2]
      refine Ev.ifn (by simp) ?_
      have e : partsL T = (T.take i).map spT := by
        have h : partsL T = partsL (T.take i) ++ partsL (T.drop i) := by
          unfold partsL
          rw [← List.map_append, ← List.filter_append, List.take_append_drop]
        rw [h, hl, hp, List.append_nil]
        unfold partsL
        rw [List.filter_eq_self.2 (fun t ht => by simpa using hne t ht)]
      rw [e, size_str]
      unfold finJ
      by_cases h : (Lib.join ((T.take i).map spT) [32]).length > 65536
      · rw [if_pos h]; exact Ev.ifp (by omega) (Ev.now _)
      · rw [if_neg h]; exact Ev.ifn (by omega) (Ev.now _)
    induction d with
    | zero =>
      intro i l hi hd hl hbl hne
      obtain rfl : i = T.length := by omega
      obtain rfl : l = [] := by rw [← hl]; exact List.drop_eq_nil_of_le (by omega)
      refine Ev.succ ?_
      simp only [salchowref09_Join.l1]
      exact Ev.ifn (by omega) (stop _ [] hi hl hne rfl)
    | succ d ih =>
      intro i l hi hd hl hbl hne
      cases l with
      | nil =>
        have := congrArg List.length hl
        rw [List.length_drop] at this
        simp at this; omega
      | cons t r =>
        obtain ⟨h1, h2, h3⟩ := rd_at hl
        have ht : t.f1.size ≤ 3000 := hB t (by have : t ∈ T.drop i := by rw [hl]; simp
                                               exact List.mem_of_mem_drop this)
        unfold badL at hbl
        simp only [Bool.or_eq_false_iff] at hbl
        obtain ⟨⟨hok, h5r⟩, hbr⟩ := hbl
        refine Ev.succ ?_
        simp only [salchowref09_Join.l1]
        refine Ev.ifp (by omega) (Ev.ifp (by omega) ?_)
        rw [h2]
        by_cases h5 : t.f0 = 5
        · rw [show (t.f0 != 5) = false by simp [h5]]
          refine stop i (t :: r) (by omega) hl hne ?_
          rw [parts_cons, if_pos h5]
          rw [h5] at h5r
          cases r with
          | nil => rfl
          | cons y ys => simp at h5r
        · rw [show (t.f0 != 5) = true by simp [h5]]
          have htake : T.take (i + 1) = T.take i ++ [t] := by
            rw [List.take_succ_eq_append_getElem h1]
            congr 2
            have := congrArg (·[0]?) hl
            simp only [List.getElem?_drop, Nat.add_zero, List.getElem?_cons_zero] at this
            exact (List.getElem?_eq_some_iff.1 this).2
          have hnext := ih (i + 1) r (by omega) (by omega) h3 hbr (by
            intro x hx
            rw [htake] at hx
            rcases List.mem_append.1 hx with hx | hx
            · exact hne x hx
            · rw [List.mem_singleton] at hx; rw [hx]; exact h5)
          rw [htake, List.map_append, List.map_cons, List.map_nil] at hnext
          have hjl : (Lib.join ((T.take i).map spT) [32]).length ≤ 3000 * 3013 := by
            have := join_length 3012 ((T.take i).map spT) (by
              intro x hx
              obtain ⟨y, hy, rfl⟩ := List.mem_map.1 hx
              exact sp_len y 3000 (hB y (List.mem_of_mem_take hy)))
            rw [List.length_map, List.length_take] at this
            have h9 : (min i T.length) * (3012 + 1) ≤ 3000 * 3013 := Nat.mul_le_mul (by omega) (by omega)
            exact Nat.le_trans this h9
          have hspl := sp_len t 3000 ht
          refine Ev.succ ?_
          simp only [salchowref09_Join.j2]
          rw [h2, wrap_nat i (by omega)]
          refine Ev.ifp (by simp) ?_
          by_cases h0 : (i : Int) > 0
          · have hne2 : (T.take i).map spT ≠ [] := by
              intro e
              have := congrArg List.length e
              rw [List.length_map, List.length_take] at this
              simp only [List.length_nil] at this
              omega
            rw [join_snoc _ _ hne2] at hnext
            refine Ev.ifp h0 (Ev.ifp (by rw [size_str]; omega) (Ev.ifp (by omega) (Ev.ifp (by omega) (Ev.bind (rSpell_f t.f0 t.f1 (by omega) t.f2 t.f3) (Ev.ifp ?_ ?_)))))
            · rw [show (⟨#[32]⟩ : ByteArray) = str [32] from rfl, str_append, size_str, size_str, List.length_append]
              have e1 : (spellS t.f0 (lst t.f1) t.f2).length = (spT t).length := rfl
              rw [e1, List.length_singleton]
              omega
            · rw [show (⟨#[32]⟩ : ByteArray) = str [32] from rfl, str_append, str_append]
              exact hnext
          · obtain rfl : i = 0 := by omega
            refine Ev.ifn h0 (Ev.ifp (by omega) (Ev.ifp (by omega) (Ev.bind (rSpell_f t.f0 t.f1 (by omega) t.f2 t.f3) (Ev.ifp ?_ ?_))))
            · rw [size_str, size_str]
              have e1 : (spellS t.f0 (lst t.f1) t.f2).length = (spT t).length := rfl
              rw [e1]
              omega
            · rw [str_append]
              simp only [List.take_zero, List.map_nil, List.nil_append, Lib.join_one, Lib.join_nil] at hnext ⊢
              exact hnext
  have first : ∀ (X : ByteArray × Int), (badL T = false → Ev (fun k => salchowref09_Join.l1 k T (⟨#[]⟩ : ByteArray) 0) X) → ∀ (d i : Nat) (l : List S46), i ≤ T.length → T.length - i = d → T.drop i = l → (badL T = badL l) →
      Ev (fun k => salchowref09_Join.l0 k T (⟨#[]⟩ : ByteArray) i) (if badL T = true then (⟨#[]⟩, 1) else X) := by
    intro X hX d
    induction d with
    | zero =>
      intro i l hi hd hl hbl
      obtain rfl : i = T.length := by omega
      obtain rfl : l = [] := by rw [← hl]; exact List.drop_eq_nil_of_le (by omega)
      refine Ev.succ ?_
      simp only [salchowref09_Join.l0]
      rw [if_neg (by rw [hbl]; simp [badL])]
      exact Ev.ifn (by omega) (hX (by rw [hbl]; rfl))
    | succ d ih =>
      intro i l hi hd hl hbl
      cases l with
      | nil =>
        have := congrArg List.length hl
        rw [List.length_drop] at this
        simp at this; omega
      | cons t r =>
        obtain ⟨h1, h2, h3⟩ := rd_at hl
        have ht : t.f1.size ≤ 3000 := hB t (by have : t ∈ T.drop i := by rw [hl]; simp
                                               exact List.mem_of_mem_drop this)
        have hrl : r.length = T.length - (i + 1) := by rw [← h3, List.length_drop]
        refine Ev.succ ?_
        simp only [salchowref09_Join.l0]
        rw [h2, wrap_nat i (by omega)]
        have hok : okT t = validB t.f0 (lst t.f1) t.f2 := rfl
        refine Ev.ifp (by omega) (Ev.ifp (by omega) (Ev.bind (rvalid_f t.f0 t.f1 (by omega) t.f2 t.f3) ?_))
        rw [show badL (t :: r) = (!okT t || (t.f0 == 5 && !r.isEmpty) || badL r) from rfl, hok] at hbl
        cases hv : validB t.f0 (lst t.f1) t.f2 with
        | false =>
          rw [hv] at hbl
          rw [if_pos (by rw [hbl]; rfl)]
          exact Ev.ifn (by simp) (Ev.now _)
        | true =>
          rw [hv] at hbl
          refine Ev.ifp rfl ?_
          by_cases h5 : t.f0 = 5
          · refine Ev.ifp h5 ?_
            rw [h5] at hbl
            by_cases hr : r = []
            · refine Ev.ifn (by rw [hr] at hrl; simp at hrl; omega) ?_
              exact ih (i + 1) r (by omega) (by omega) h3 (by rw [hbl, hr]; rfl)
            · have : r.length ≠ 0 := fun h => hr (List.length_eq_zero_iff.1 h)
              rw [if_pos (by rw [hbl]; cases r with | nil => exact absurd rfl hr | cons y ys => rfl)]
              exact Ev.ifp (by omega) (Ev.now _)
          · refine Ev.ifn h5 (ih (i + 1) r (by omega) (by omega) h3 ?_)
            rw [hbl]; simp [h5]
  unfold salchowref09_Join.f joinAns
  refine first _ (fun hb => ?_) _ 0 T (by omega) rfl rfl rfl
  exact second hb _ 0 T (by omega) rfl rfl hb (by simp)
theorem lexerJoins (T : List S46) : ∃ k, salchowlaw09_LexerJoins.f k T = some true := by
  apply Ev.rounds
  unfold salchowlaw09_LexerJoins.f
  by_cases h40 : (T.length : Int) > 40
  · exact Ev.ifp h40 (Ev.bind awake_f (Ev.now _))
  · refine Ev.ifn h40 ?_
    have loop : ∀ (d i : Nat) (l : List S46), i ≤ T.length → T.length - i = d → T.drop i = l → (∀ t ∈ T.take i, t.f1.size ≤ 100) → Ev (fun k => salchowlaw09_LexerJoins.l0 k T i) true := by
      intro d
      induction d with
      | zero =>
        intro i l hi hd hl hB
        obtain rfl : i = T.length := by omega
        rw [List.take_length] at hB
        refine Ev.succ ?_
        simp only [salchowlaw09_LexerJoins.l0]
        have hB2 : ∀ t ∈ T, t.f1.size ≤ 3000 := fun t ht => by have := hB t ht; omega
        exact Ev.ifn (by omega) (Ev.bind (join_f T (by omega) hB2) (Ev.bind (rjoin_f T (by omega) hB2) (Ev.bind awake_f (Ev.ifp rfl (Ev.ifp rfl (Ev.ret (by simp)))))))
      | succ d ih =>
        intro i l hi hd hl hB
        cases l with
        | nil =>
          have := congrArg List.length hl
          rw [List.length_drop] at this
          simp at this; omega
        | cons t r =>
          obtain ⟨h1, h2, h3⟩ := rd_at hl
          refine Ev.succ ?_
          simp only [salchowlaw09_LexerJoins.l0]
          rw [h2, wrap_nat i (by omega)]
          refine Ev.ifp (by omega) (Ev.ifp (by omega) ?_)
          by_cases h : (t.f1.size : Int) > 100
          · exact Ev.ifp h (Ev.bind awake_f (Ev.now _))
          · refine Ev.ifn h (ih (i + 1) r (by omega) (by omega) h3 ?_)
            intro x hx
            have htake : T.take (i + 1) = T.take i ++ [t] := by
              rw [List.take_succ_eq_append_getElem h1]
              congr 2
              have := congrArg (·[0]?) hl
              simp only [List.getElem?_drop, Nat.add_zero, List.getElem?_cons_zero] at this
              exact (List.getElem?_eq_some_iff.1 this).2
            rw [htake] at hx
            rcases List.mem_append.1 hx with hx | hx
            · exact hB x hx
            · rw [List.mem_singleton] at hx; rw [hx]; omega
    exact loop _ 0 T (by omega) rfl rfl (by simp)
end Go.Proofs.YtkifdadhojbohaaDoor.Pu
namespace Go.Proofs.YtkifdadhojbohaaDoor.Rk
open Go.RowKit Go.Proofs.YtkifdadhojbohaaDoor.Pr Go.Proofs.YtkifdadhojbohaaDoorW.PrintWords Go.ChangeShapes Go.WideShapes
theorem list4 {α : Type} : ∀ {l : List α}, l.length = 4 → ∃ a b c d, l = [a, b, c, d]
  | [a, b, c, d], _ => ⟨a, b, c, d, rfl⟩
theorem list5 {α : Type} : ∀ {l : List α}, l.length = 5 → ∃ a b c d e, l = [a, b, c, d, e]
  | [a, b, c, d, e], _ => ⟨a, b, c, d, e, rfl⟩
section
variable {H : Type} {enc : TypeId × Value → H} {w : World} {base : Nat} {spare : Nat → Bool} {held : Bool}
theorem open_row_of {α : Type} [Inhabited α] (d : Kd α) {t e : TypeId} (ht : Tryd.prog.underlying t = some (.slice e)) (hce : Tryd.prog.cellsOf e = d.sz) {fuel : Nat} {v : Value} {x : DataW H × List MemPlace}
    (h : DataW.trod enc Tryd.prog w base spare held fuel t [v] = some x) (hd : ∀ n cs y, n < fuel → DataW.trod enc Tryd.prog w base spare held n e cs = some y → ∃ p, d.K w p cs) :
    ∃ (A : Option Addr) (T : List α) (c : Nat), v = .slice A T.length c ∧ T.length ≤ c ∧ Kd.C d w A T.length T := by
  rcases DataW.trod_slice ht h with ⟨hv, _⟩ | ⟨a, len, cap, elems, rest, n, hf, hv, _, _, hl, hm, hlen, hel, _, _⟩
  · refine ⟨none, [], 0, (List.cons.inj hv).1, Nat.le_refl _, rfl, by simp, fun h => absurd h (by simp)⟩
  · have hx : ∀ i, i < len → ∃ p : α, ∃ cs, w.cells? base (a.add (i * d.sz)) d.sz = some cs ∧ d.K w p cs := by
      intro i hi
      have h1 := hel i hi
      rw [List.getElem?_eq_getElem (by omega), hce] at h1
      obtain ⟨cs, hc, hy⟩ := Option.bind_eq_some_iff.1 h1
      obtain ⟨p, hp⟩ := hd n cs _ (by omega) hy
      exact ⟨p, cs, hc, hp⟩
    obtain ⟨V, hV⟩ := Deep.choose_lt hx
    have hml : maxLen ≤ 9223372036854775807 := by decide
    refine ⟨some a, (List.range len).map V, cap, ?_, by simpa using hl, by simp, by simp; omega, fun _ => ⟨a, rfl, fun j p hj => ?_⟩⟩
    · rw [(List.cons.inj hv).1]; simp
    · rw [List.getElem?_map] at hj
      obtain ⟨i, hi, rfl⟩ := Option.map_eq_some_iff.1 hj
      have hjl : j < len := by
        have := (List.getElem?_eq_some_iff.1 hi).1
        simpa using this
      rw [List.getElem?_range hjl] at hi
      obtain rfl := Option.some.inj hi
      obtain ⟨cs, hc, hp⟩ := hV j hjl
      obtain ⟨_, hcl, hcell⟩ := World.cells?_some hc
      refine ⟨cs, hcl, hp, fun i u hu => ?_⟩
      have hi : i < d.sz := by rw [← hcl]; exact (List.getElem?_eq_some_iff.1 hu).1
      rw [← Addr.add_add, hcell i hi, hu]
instance : Inhabited S46 := ⟨z46⟩
instance : Inhabited S41 := ⟨z41⟩
theorem tok_of {n : Nat} {cs : List Value} {y : DataW H × List MemPlace} (h : DataW.trod enc Tryd.prog w base spare held n 46 cs = some y) : ∃ p : S46, k46.K w p cs := by
  obtain ⟨y0, y1, y2, y3, m, _, hl, t0, t1, t2, t3⟩ := Joins.trod_struct4 Tryd.underlying46 h
  obtain ⟨b0, e0, _, _⟩ := DataW.trod_int Tryd.underlying3 t0
  obtain ⟨b1, e1, _, _⟩ := DataW.trod_string Tryd.underlying9 t1
  obtain ⟨b2, e2, _, _⟩ := DataW.trod_int Tryd.underlying2 t2
  obtain ⟨b3, e3, _, _⟩ := DataW.trod_int Tryd.underlying3 t3
  have hc : Tryd.prog.cellsOf 46 = 4 := by kernel_rfl
  have c2 : Tryd.prog.cellsOf 2 = 1 := by kernel_rfl
  have c3 : Tryd.prog.cellsOf 3 = 1 := by kernel_rfl
  have c9 : Tryd.prog.cellsOf 9 = 1 := by kernel_rfl
  rw [hc] at hl
  simp only [c2, c3, c9] at e0 e1 e2 e3
  obtain ⟨u0, u1, u2, u3, rfl⟩ := list4 hl
  obtain rfl : u0 = _ := (List.cons.inj e0).1
  obtain rfl : u1 = _ := (List.cons.inj e1).1
  obtain rfl : u2 = _ := (List.cons.inj e2).1
  obtain rfl : u3 = _ := (List.cons.inj e3).1
  exact ⟨⟨b0, b1, b2, b3⟩, k46_mk w ⟨b0, b1, b2, b3⟩⟩
theorem open_tokens {fuel : Nat} {v : Value} {x : DataW H × List MemPlace} (h : DataW.trod enc Tryd.prog w base spare held fuel 31 [v] = some x) :
    ∃ (A : Option Addr) (T : List S46) (c : Nat), v = .slice A T.length c ∧ T.length ≤ c ∧ Kd.C k46 w A T.length T :=
  open_row_of k46 Tryd.underlying31 (by kernel_rfl) h (fun _ _ _ _ hy => tok_of hy)
theorem clause_of : ∀ (n : Nat) (cs : List Value) (y : DataW H × List MemPlace), DataW.trod enc Tryd.prog w base spare held n 41 cs = some y → ∃ p : S41, k41.K w p cs := by
  intro n
  induction n using Nat.strongRecOn with
  | _ n ih =>
    intro cs y h
    obtain ⟨xs, m, hm, _, hl, hxl, hf⟩ := DataW.trod_struct Tryd.underlying41 h
    have hc : Tryd.prog.cellsOf 41 = 5 := by kernel_rfl
    have c3 : Tryd.prog.cellsOf 3 = 1 := by kernel_rfl
    have c4 : Tryd.prog.cellsOf 4 = 1 := by kernel_rfl
    have c9 : Tryd.prog.cellsOf 9 = 1 := by kernel_rfl
    have c23 : Tryd.prog.cellsOf 23 = 1 := by kernel_rfl
    have c31 : Tryd.prog.cellsOf 31 = 1 := by kernel_rfl
    rw [hc] at hl
    obtain ⟨u0, u1, u2, u3, u4, rfl⟩ := list5 hl
    obtain ⟨y0, y1, y2, y3, y4, rfl⟩ := list5 (l := xs) hxl
    ·
      have t0 : DataW.trod enc Tryd.prog w base spare held m 9 (([u0, u1, u2, u3, u4].drop 0).take (Tryd.prog.cellsOf 9)) = some y0 := hf 0 _ rfl
      have t1 : DataW.trod enc Tryd.prog w base spare held m 31 (([u0, u1, u2, u3, u4].drop 1).take (Tryd.prog.cellsOf 31)) = some y1 := hf 1 _ rfl
      have t2 : DataW.trod enc Tryd.prog w base spare held m 4 (([u0, u1, u2, u3, u4].drop 2).take (Tryd.prog.cellsOf 4)) = some y2 := hf 2 _ rfl
      have t3 : DataW.trod enc Tryd.prog w base spare held m 23 (([u0, u1, u2, u3, u4].drop 3).take (Tryd.prog.cellsOf 23)) = some y3 := hf 3 _ rfl
      have t4 : DataW.trod enc Tryd.prog w base spare held m 3 (([u0, u1, u2, u3, u4].drop 4).take (Tryd.prog.cellsOf 3)) = some y4 := hf 4 _ rfl
      rw [c9] at t0
      rw [c31] at t1
      rw [c4] at t2
      rw [c23] at t3
      rw [c3] at t4
      obtain ⟨b0, e0, _, _⟩ := DataW.trod_string Tryd.underlying9 t0
      obtain ⟨A1, T1, c1, e1, l1, g1⟩ := open_tokens t1
      obtain ⟨b2, e2, _⟩ := DataW.trod_bool Tryd.underlying4 t2
      obtain ⟨A3, T3, c3', e3, l3, g3⟩ := open_row_of k41 Tryd.underlying23 (by kernel_rfl) t3 (fun k cs y hk hy => ih k (by omega) cs y hy)
      obtain ⟨b4, e4, _, _⟩ := DataW.trod_int Tryd.underlying3 t4
      obtain rfl : u0 = _ := (List.cons.inj e0).1
      obtain rfl : u1 = _ := e1
      obtain rfl : u2 = _ := (List.cons.inj e2).1
      obtain rfl : u3 = _ := e3
      obtain rfl : u4 = _ := (List.cons.inj e4).1
      exact ⟨⟨b0, T1, b2, T3, b4⟩, k41_mk w ⟨b0, T1, b2, T3, b4⟩ l1 g1 l3 g3⟩
theorem open_clauses {fuel : Nat} {v : Value} {x : DataW H × List MemPlace} (h : DataW.trod enc Tryd.prog w base spare held fuel 23 [v] = some x) :
    ∃ (A : Option Addr) (T : List S41) (c : Nat), v = .slice A T.length c ∧ T.length ≤ c ∧ Kd.C k41 w A T.length T :=
  open_row_of k41 Tryd.underlying23 (by kernel_rfl) h (fun n cs y _ hy => clause_of n cs y hy)
end
end Go.Proofs.YtkifdadhojbohaaDoor.Rk
namespace Go.Proofs.YtkifdadhojbohaaDoor.lexerJoins
open Go.Proofs.YtkifdadhojbohaaDoorW.PrintWords
open Go.ChangeShapes Go.WideShapes Go.ChangeAt Go.RowKit Rk
open Go.ChangeMaps (open_string shut_string)
theorem c09 : (Rows.lexerJoinsRow.inPlace == Tryd.prog.inPlace 15) = true := by kernel_rfl
theorem c10 : (Rows.lexerJoinsRow.unfollowed == Tryd.prog.unfollowed 15) = true := by kernel_rfl
theorem c11 : (Rows.lexerJoinsRow.recurses == Tryd.prog.recurses 15) = true := by kernel_rfl
theorem c12 : (Rows.lexerJoinsRow.named == Tryd.prog.varsNamed 15) = true := by kernel_rfl
theorem facts : joinedFacts Tryd.prog 15 Tryd.f15 Rows.lexerJoinsSpec Rows.lexerJoinsRow = true :=
  facts_of _ _ _ _ _ (by kernel_rfl) out_ rowed_ (by kernel_rfl) (by kernel_rfl) rfl (by kernel_rfl) rfl (by kernel_rfl) c09 c10 c11 c12 (by kernel_rfl) (by kernel_rfl) (by kernel_rfl) (by kernel_rfl) (by kernel_rfl)
    (by kernel_rfl) (by kernel_rfl) (by kernel_rfl) (by kernel_rfl) (by kernel_rfl) (by kernel_rfl) heard_ enter_ (by kernel_rfl) (by kernel_rfl) (by kernel_rfl) (by kernel_rfl) (by kernel_rfl) (by kernel_rfl)
theorem goes : false = Rows.lexerJoinsRow.goesBy Tryd.prog := by kernel_rfl
set_option maxRecDepth 100000 in
theorem lifted (os : Os) (started : os.Started) (H : Type) (enc : TypeId × Value → H) :
    ReturnsInHanded {} Tryd.checked os 15 .any (fun w args => (Rows.lexerJoinsSpec.pre enc Tryd.prog Tryd.f15 [] false w args ∧ laidMetH Tryd.prog laidB w) ∧ sizedMet enc Tryd.prog Tryd.f15 (OpenSpec.ofChange Rows.lexerJoinsSpec) false w args)
      (Rows.lexerJoinsSpec.post enc Tryd.prog Tryd.f15 false true false false) := by
  refine returnsInHanded_of_change_and (C := Tryd.checked) (X := fun w _ => laidMetH Tryd.prog laidB w) (fun _ _ _ hh h => h.of_heap hh) own started (by kernel_rfl) Tryd.func15
    (ChangeSpec.witness_shaped (enc := enc) (C := Tryd.checked) (os := os) (X := fun w _ => laidMetH Tryd.prog laidB w) false (wB os) #[.slice none 0 0] 8 (World.laidAll_os _ _ _)
      (World.shaped_of_ZipB (by kernel_rfl) (by kernel_rfl)) (by kernel_rfl) (by kernel_rfl) (by kernel_rfl) (met_B os _)) ?_
  intro W base args ds gs before hval0 hW _ hsz0 hL _
  have hsz : (DataW.weightsEach Tryd.prog (Tryd.f15.params.toList ++ Rows.lexerJoinsSpec.plain.varTypes Tryd.prog) (ds ++ gs)).all (· ≤ reachBytes) = true := hsz0
  have hval : ∀ (j : Nat) t v, Tryd.f15.params[j]? = some t → args[j]? = some v → Value.okWide Tryd.prog W .any base t v := hval0
  have hW' := hW
  obtain ⟨p, q, hA0, hV, rfl, _, _⟩ := hW
  have hA : DataW.TrodAll enc Tryd.prog W 0 (fun _ => true) true Tryd.f15.params.toList args.toList ds p := hA0
  rw [Tryd.params15] at hA hval hsz
  obtain ⟨v0, vs0, d0, ds0, p0, q0, hargs, rfl, rfl, h0, r0⟩ := trodAll_cons hA
  obtain ⟨rfl, rfl, rfl⟩ := trodAll_nil r0
  obtain rfl : args = #[v0] := by cases args; simp_all
  obtain ⟨rfl, rfl⟩ := trodVars_none hV
  obtain ⟨a0, len0, cap0, rfl⟩ := okWide_slice Tryd.underlying31 (hval 0 31 v0 rfl rfl)
  have k0 := h0
  have lt0 : ∀ x ∈ p0, x.block < W.heap.size := by obtain ⟨m, hm⟩ := k0; exact DataW.trod_lt m _ _ _ hm
  obtain ⟨A0, T0, c0, e0, l0, g0⟩ : ∃ A T c, Value.slice a0 len0 cap0 = .slice A T.length c ∧ T.length ≤ c ∧ Kd.C Pr.k46 W A T.length T := by
    obtain ⟨fuel, hf⟩ := h0
    exact open_tokens (fuel := fuel) (by simpa [Value.cells] using hf)
  rw [e0] at k0 hW' ⊢
  clear hA0 hval0 hsz0 hsz
  obtain ⟨k, hk⟩ := Pu.lexerJoins T0
  refine (Pr.salchowlaw09_LexerJoins.calls k A0 c0 T0 true W (gl_B hL) g0 l0 hk).mono fun e W' ⟨he, bel⟩ => ?_
  subst he
  exact ⟨_, rfl, _, _, _, [], _, [], hW', trodAll_mk1 (shut_bool Tryd.underlying4 _), (trodAll_cons_mk (Below.trod out_ (by kernel_rfl) (of_decide_eq_true (by kernel_rfl)) k0 bel lt0) trodAll_mk0), rfl, bel.frame _, fun h => by cases h⟩
theorem over : Rows.lexerJoinsRow.holds Tryd.pinned (OpenSpec.ofChange Rows.lexerJoinsSpec) :=
  OpenClaim.holds_of_wide 15 Tryd.f15 rfl rfl rfl rfl rfl rfl rfl ⟨rfl, rfl, rfl, rfl, rfl⟩ rfl rfl rfl rfl rfl (by kernel_rfl) Tryd.func15 facts
    (of_decide_eq_true (by kernel_rfl)) (by unfold Func.isWrapper; first | (rw [if_pos (by decide +kernel)]; kernel_rfl) | (rw [if_neg (by decide +kernel)]; exact ⟨rfl, rfl⟩))
    (fun os started H enc _ => lifted os started H enc)
theorem card : Rows.LexerJoinsCardSaid :=
  Claim7.holds_tied_plain_at .later [] [.data, .data, .data, .data, .sentinel, .sentinel, .pinned] true (true, "74d2011260c70b611c86c4d3b7f5d11cc5fefff18c715f175ff3522b41f9dd0c") true
    over (fun _ h => by cases h) (by kernel_rfl) (fun _ h => by cases h) lexerJoins_row_tie rfl ⟨rfl, rfl⟩ mainIs_ rfl
    (fun f fn hf hfn => by
      obtain rfl : f = 15 := Option.some.inj ((show Tryd.prog.funcNamed "salchow/salchowlaw09.LexerJoins" = some 15 by kernel_rfl).symm.trans hf) |>.symm
      obtain rfl : fn = Tryd.f15 := (Option.some.inj (Tryd.func15.symm.trans hfn)).symm
      exact ⟨looks_, fun j t ht => by
        rw [Tryd.params15] at ht
        have hm : t ∈ [31] := by simpa using Array.mem_of_getElem? ht
        have hall : ([31].all fun u => !Tryd.prog.wantsStandIn u) = true := by kernel_rfl
        exact (show Tryd.prog.wantsStandIn t = false by simpa using List.all_eq_true.1 hall t hm)⟩)
    goes
#print axioms card
end Go.Proofs.YtkifdadhojbohaaDoor.lexerJoins
