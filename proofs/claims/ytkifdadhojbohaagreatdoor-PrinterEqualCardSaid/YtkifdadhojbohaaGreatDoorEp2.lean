/- Joined out of the texts of this proof that bear the names GivH GivP: what each shows stands over it there. -/
import Derived.Test.YtkifdadhojbohaaGreatDoorEp1
set_option linter.unusedVariables false
set_option linter.unusedSimpArgs false
set_option maxHeartbeats 8000000
set_option maxRecDepth 100000
namespace Go.Proofs.YtkifdadhojbohaaGreatDoor.Pr
open Go.Proofs.YtkifdadhojbohaaGreatDoor Go.Shelf Go.Proofs
open Go.RowKit Go.Proofs.YtkifdadhojbohaaGreatDoorW.PrintWords Go.Proofs.YtkifdadhojbohaaGreatDoorW.PrintLast Go.Proofs.YtkifdadhojbohaaGreatDoorW.PrintMore
open Go.Proofs.YtkifdadhojbohaaGreatDoor.Pu (isS sp glue dS gu srcL str SpA SpG lst szL AllC indL je)
structure FP (w0 w : World) (b g3 g5 : Nat) (front : ByteArray) (s : List UInt8) (w' : World) : Prop where
  hB : Below w0.heap.size w0 w'
  ib : IsB w0.heap.size b s w'
  k3 : w'.heap[g3]? = some (.cells #[.pointer (some ⟨b, 0, none⟩)] 52 (0, 0))
  k5 : w'.heap[g5]? = some (.cells #[.string front] 9 (0, 0))
  n3 : g3 ≠ b
  n5 : g5 ≠ b
  fr : fI b w w'
  hQ : Below w0.heap.size w w'
theorem FP.below {w0 w : World} {b g3 g5 : Nat} {front : ByteArray} {s : List UInt8} {w1 w2 : World} (h : FP w0 w b g3 g5 front s w1) (hb : Below w1.heap.size w1 w2) : FP w0 w b g3 g5 front s w2 :=
  ⟨ah h.hB hb, IsB.below h.ib hb, aZ h.k3 hb, aZ h.k5 hb, h.n3, h.n5, h.fr.trans (fI.below hb), below_then h.hQ (bH h.hB) hb⟩
theorem FP.step {w0 w : World} {b g3 g5 : Nat} {front : ByteArray} {s s' : List UInt8} {w1 w2 : World} (h : FP w0 w b g3 g5 front s w1) (m1 : IsB w0.heap.size b s' w2) (m2 : Below w0.heap.size w1 w2) (m3 : fI b w1 w2) : FP w0 w b g3 g5 front s' w2 :=
  ⟨h.hB.trans m2, m1, m3 g3 _ _ _ (by decide) h.n3 h.k3, m3 g5 _ _ _ (by decide) h.n5 h.k5, h.n3, h.n5, h.fr.trans m3, h.hQ.trans m2⟩
theorem mem_sz {c : S41} : ∀ l : List S41, c ∈ l → 1 + c.f1.length + szL c.f3 ≤ szL l
  | [], h => by cases h
  | d :: l, h => by
    rw [szL]
    rcases List.mem_cons.1 h with rfl | h
    · omega
    · have := mem_sz l h
      omega
theorem mem_all {P : S41 → Prop} {c : S41} {l : List S41} (h : AllC P l) (hc : c ∈ l) : P c ∧ AllC P c.f3 := by
  induction h with
  | nil => cases hc
  | cons d l h1 h2 h3 _ ih3 =>
    rcases List.mem_cons.1 hc with rfl | hc
    · exact ⟨h1, h2⟩
    · exact ih3 hc
theorem rd_mem41 (l : List S41) (x : Int) (h0 : 0 ≤ x) (h1 : x < l.length) : au l x ∈ l := by
  unfold au
  have hn : x.toNat < l.length := by omega
  rw [List.getD_eq_getElem?_getD, List.getElem?_eq_getElem hn]
  exact List.getElem_mem hn
theorem src_at (n : Nat) (l : List S41) (x : Int) (h0 : 0 ≤ x) (h1 : x < l.length) :
    srcL n (l.drop x.toNat) = List.replicate n 32 ++ (gu (au l x) ++ 10 :: ((if (au l x).f2 = true then srcL (n + 2) (au l x).f3 ++ (List.replicate n 32 ++ [125, 10]) else []) ++ srcL n (l.drop (x + 1).toNat))) := by
  obtain ⟨m, rfl⟩ : ∃ n : Nat, x = n := ⟨x.toNat, by omega⟩
  have hn : m < l.length := by omega
  have e1 : (↑m : Int).toNat = m := rfl
  have e2 : (↑m + 1 : Int).toNat = m + 1 := by omega
  have hr : au l ↑m = l[m] := by unfold au; rw [e1, List.getD_eq_getElem?_getD, List.getElem?_eq_getElem hn]; rfl
  rw [e1, e2, hr, List.drop_eq_getElem_cons hn, srcL]
theorem first_c (k : Nat) (w : World) (hG : Gl w) (c : S41) (A1 : Option Addr) (c1 : Nat) (b2 : Bool) (A3 : Option Addr) (n3 c3 : Nat) (hb : c.f2 = b2) (hr : Kd.C k46 w A1 c.f1.length c.f1) (hc : c.f1.length ≤ c1) (hok : ∀ t ∈ c.f1, SpA k t) (hn : c.f1.length ≤ 70368744177664) (hlen : (gu c).length ≤ 70368744177664) :
    Calls Tryz.prog 23 #[.agg #[.string c.f0, .slice A1 c.f1.length c1, .bool b2, .slice A3 n3 c3, .int .i64 c.f4]] w fun e w' => e = .returned (.string (str (gu c))) ∧ Below w.heap.size w w' := by
  subst hb
  have e : gu c = (lst c.f0 ++ dS none c.f1) ++ (if c.f2 = true then [32, 123] else [59]) := by unfold gu; rw [List.append_assoc]
  rw [e]
  refine first_s k w hG c.f0 A1 c1 c.f1 c.f2 A3 n3 c3 c.f4 hr hc hok hn ?_
  rw [e, List.length_append] at hlen
  omega
theorem front_two {n : Nat} {front : ByteArray} (h : lst front = List.replicate n 32) : lst (front ++ (⟨#[32, 32]⟩ : ByteArray)) = List.replicate (n + 2) 32 := by
  have : lst (front ++ (⟨#[32, 32]⟩ : ByteArray)) = lst front ++ [32, 32] := by unfold lst; simp
  rw [this, h, show ([32, 32] : List UInt8) = List.replicate 2 32 from rfl, List.replicate_append_replicate]
theorem ll {n : Nat} {front : ByteArray} (h : lst front = List.replicate n 32) (x : ByteArray) : ((front ++ x) ++ (⟨#[10]⟩ : ByteArray)).data.toList = List.replicate n 32 ++ (lst x ++ [10]) := by
  rw [← h]; unfold lst; simp
theorem print_s (w0 : World) (hG : Gl w0) (k : Nat) : ∀ N : Nat, ∀ l : List S41, szL l ≤ N → ∀ (w : World) (A : Option Addr) (c n : Nat) (s : List UInt8) (b : Nat) (front : ByteArray), Kd.C k41 w0 A l.length l → l.length ≤ c → AllC (fun c => ∀ t ∈ c.f1, SpA k t) l → szL l ≤ 70368744177664 → Below w0.heap.size w0 w → IsB w0.heap.size b s w → s.length + (srcL n l).length ≤ 70368744177664 → lst front = List.replicate n 32 →
    Calls Tryz.prog 28 #[.pointer (some ⟨b, 0, none⟩), .slice A l.length c, .string front] w fun e w' => e = .returned (.tuple #[]) ∧ IsB w0.heap.size b (s ++ srcL n l) w' ∧ Below w0.heap.size w w' ∧ fI b w w' := by
  intro N
  induction N using Nat.strongRecOn with
  | _ N ihN =>
  intro l hN w A c n s b front hr hc ho hz hb0 hib hlen hfr
  have hu41 := Tryz.underlying25
  have hmf : ∀ (fn : Fn) (first cap : Array Value) (w : World), (Instr.makeFunc fn first cap).run Tryz.prog w = .ok (.func fn first cap) w := fun _ _ _ _ => rfl
  have ih : af (∀ l' : List S41, szL l' < N → ∀ (w : World) (A : Option Addr) (c n : Nat) (s : List UInt8) (b : Nat) (front : ByteArray), Kd.C k41 w0 A l'.length l' → l'.length ≤ c → AllC (fun c => ∀ t ∈ c.f1, SpA k t) l' → szL l' ≤ 70368744177664 → Below w0.heap.size w0 w → IsB w0.heap.size b s w → s.length + (srcL n l').length ≤ 70368744177664 → lst front = List.replicate n 32 →
    Calls Tryz.prog 28 #[.pointer (some ⟨b, 0, none⟩), .slice A l'.length c, .string front] w fun e w' => e = .returned (.tuple #[]) ∧ IsB w0.heap.size b (s ++ srcL n l') w' ∧ Below w0.heap.size w w' ∧ fI b w w') := ⟨fun l' h => ihN (szL l') h l' (Nat.le_refl _)⟩
  clear ihN
  have HG := af.mk hG
  have HR := af.mk hr
  have HC := af.mk hc
  have HO := af.mk ho
  have HZ := af.mk hz
  have HNN := af.mk hN
  have HB := af.mk hb0
  have HI := af.mk hib
  have HW0 := af.mk (bH hb0)
  have HL := af.mk hlen
  have HFR := af.mk hfr
  have HQ := af.mk (Below.refl w.heap.size w)
  clear hG hr hc ho hz hN hb0 hib hlen hfr
  go_enter Tryz.func28, Tryz.ntmps28
  go_wp2_with (first
    | ((with_reducible refine aA (N := 3) rfl ?_); refine eY ?hg (N := 3) ?hd (cs := #[.pointer (some ⟨b, 0, none⟩)]) (t := 52) ?hr ?_; (case hd => rfl); (case hg => rfl); (case hr => first | (go_simp; done) | (go_simp; rfl)); intro g3 hg w1 hbox hb; have K3 := af.mk hbox; have N3 := af.mk ((by rw [hg]; exact Nat.ne_of_gt (IsB.lt HI.1)) : g3 ≠ b); have n0_ := af.mk (IsB.below HI.1 hb); have n1_ := af.mk (ah HB.1 hb); have n2_ := af.mk (ah HQ.1 hb); clear HI HB HQ; have HI := n0_; have HB := n1_; have HQ := n2_; clear n0_ n1_ n2_ hg hbox hb)
    | ((with_reducible refine aA (N := 5) rfl ?_); refine eY ?hg (N := 5) ?hd (cs := #[.string front]) (t := 9) ?hr ?_; (case hd => rfl); (case hg => rfl); (case hr => first | (go_simp; done) | (go_simp; rfl)); intro g5 hg w2 hbox hb; have HF : af (FP w0 w b g3 g5 front s w2) := ⟨⟨ah HB.1 hb, IsB.below HI.1 hb, aZ K3.1 hb, hbox, N3.1, (by rw [hg]; exact Nat.ne_of_gt (IsB.lt HI.1)), fI.below (ah HQ.1 hb), (ah HQ.1 hb).mono HW0.1⟩⟩; clear HI HB HQ K3 N3 hg hbox hb))
  go_loopg [12] l.length (fun kq v12 w' => ∃ x : Int, v12 = .int .i64 x ∧ af (0 ≤ x) ∧ af (x + kq = l.length) ∧ ∃ s1, af (FP w0 w b g3 g5 front s1 w') ∧ af (s1 ++ srcL n (l.drop x.toNat) = s ++ srcL n l))
  case atStart => exact ⟨0, rfl, ⟨Int.le_refl 0⟩, ⟨by omega⟩, _, HF, ⟨rfl⟩⟩
  case round =>
    clear HF
    obtain ⟨x, rfl, X0, XK, s1, HF, HS⟩ := hrel
    by_cases c13 : x < (l.length : Int)
    · have c13b : decide (x < (l.length : Int)) = true := decide_eq_true c13
      obtain ⟨k1, rfl⟩ : ∃ k', gk = k' + 1 := ⟨gk - 1, by have := XK.1; omega⟩
      have hat := src_at n l x X0.1 c13
      have hmem := rd_mem41 l x X0.1 c13
      have hsz := mem_sz l hmem
      have hall := mem_all HO.1 hmem
      have hz := HZ.1
      have hw2 : wrap64 (x + 1) = x + 1 := kT (by have := X0.1; omega) (by have := je l; omega)
      have HO1 := af.mk hall.1
      have HO3 := af.mk hall.2
      have HN1 := af.mk ((by omega) : (au l x).f1.length ≤ 70368744177664)
      have HN3 := af.mk ((by omega) : szL (au l x).f3 ≤ 70368744177664)
      have HSZ := af.mk ((by have := HNN.1; omega) : szL (au l x).f3 < N)
      have hle : s1.length + (srcL n (l.drop x.toNat)).length ≤ 70368744177664 := by
        have h := congrArg List.length HS.1; have h2 := HL.1
        rw [List.length_append, List.length_append] at h
        omega
      have hfl : front.size = n := by rw [← Pu.aI, HFR.1, List.length_replicate]
      have LN0 : af ((gu (au l x)).length ≤ 70368744177664) := ⟨by rw [hat] at hle; simp only [List.length_append, List.length_cons] at hle; omega⟩
      have LN1 : af (s1.length + (front.size + (str (gu (au l x))).size + 1) ≤ 140737488355328) := ⟨by rw [Pu.dY, hfl]; rw [hat] at hle; simp only [List.length_append, List.length_cons, List.length_replicate] at hle; omega⟩
      have HN8 := af.mk ((by rw [hat] at hle; simp only [List.length_append, List.length_cons, List.length_replicate] at hle; omega) : front.size ≤ 70368744177664)
      obtain ⟨ad, A1, c1, A3, c3, eA, hx0, hx1, hx2, hx3, hx4, hl1, hi1, hl3, hi3⟩ := iQ HR.1 x X0.1 c13
      cases eA
      have HR1 := af.mk hi1
      have HC1 := af.mk hl1
      have HR3 := af.mk hi3
      have HC3 := af.mk hl3
      replace hx0 := (HF.1.hB.cell (World.block_lt_of_cell? w0 _ hx0)).trans hx0
      replace hx1 := (HF.1.hB.cell (World.block_lt_of_cell? w0 _ hx1)).trans hx1
      replace hx2 := (HF.1.hB.cell (World.block_lt_of_cell? w0 _ hx2)).trans hx2
      replace hx3 := (HF.1.hB.cell (World.block_lt_of_cell? w0 _ hx3)).trans hx3
      replace hx4 := (HF.1.hB.cell (World.block_lt_of_cell? w0 _ hx4)).trans hx4
      have p1 : (0 ≤ x) = True := eq_true X0.1
      have p2 : (x < (l.length : Int)) = True := eq_true c13
      have p3 : (9223372036854775807 < front.size + 2) = False := eq_false (by have := HN8.1; omega)
      have p4 : (front.size + 2 ≤ 9223372036854775807) = True := eq_true (by have := HN8.1; omega)
      clear hi1 hl1 hi3 hl3 hall hmem hsz hz c13
      by_cases hb2 : (au l x).f2 = true
      · have HB2 := af.mk hb2
        rw [hb2] at hx2
        rw [if_pos hb2] at hat
        have LN3 : af (((s1 ++ ((front ++ (str (gu (au l x)))) ++ (⟨#[10]⟩ : ByteArray)).data.toList)).length + (srcL (n + 2) (au l x).f3).length ≤ 70368744177664) := ⟨by rw [ll HFR.1]; rw [hat] at hle; simp only [List.length_append, List.length_cons, List.length_replicate, Pu.gM, List.length_nil] at hle ⊢; omega⟩
        have LN4 : af ((((s1 ++ ((front ++ (str (gu (au l x)))) ++ (⟨#[10]⟩ : ByteArray)).data.toList) ++ srcL (n + 2) (au l x).f3)).length + (front.size + (⟨#[125]⟩ : ByteArray).size + 1) ≤ 140737488355328) := ⟨by rw [ll HFR.1, hfl]; rw [hat] at hle; simp only [List.length_append, List.length_cons, List.length_replicate, Pu.gM, List.length_nil] at hle ⊢; show _ + (n + 1 + 1) ≤ _; omega⟩
        have HSN : af (((((s1 ++ ((front ++ (str (gu (au l x)))) ++ (⟨#[10]⟩ : ByteArray)).data.toList) ++ srcL (n + 2) (au l x).f3)) ++ ((front ++ (⟨#[125]⟩ : ByteArray)) ++ (⟨#[10]⟩ : ByteArray)).data.toList) ++ srcL n (l.drop (x + 1).toNat) = s ++ srcL n l) := ⟨by have h := HS.1; rw [hat] at h; rw [← h, ll HFR.1, ll HFR.1, Pu.gM, show lst (⟨#[125]⟩ : ByteArray) = [125] from rfl]; simp⟩
        have HF2 := af.mk (front_two HFR.1)
        clear hat hle hfl hb2
        go_wp2_with (first
          | ((with_reducible refine aA (N := 8) rfl ?_); refine eY ?hg (N := 8) ?hd (cs := #[.string (⟨#[]⟩ : ByteArray), .slice none 0 0, .bool false, .slice none 0 0, .int .i64 0]) (t := 25) ?hr ?_; (case hd => rfl); (case hg => rfl); (case hr => first | (go_simp; done) | (go_simp; rfl)); intro g8 hg w5 hbox hb; have HB5 := af.mk hb; have GE8 := af.mk (Nat.le_of_eq hg.symm); have NE8 := af.mk ((by rw [hg]; exact Nat.ne_of_gt (IsB.lt HF.1.ib)) : g8 ≠ b); have BK8 := af.mk hbox; have hcz0 : w5.cell? ⟨g8, 0, none⟩ = some (.string (⟨#[]⟩ : ByteArray)) := (ax hbox 0).trans rfl; have hfz0 := aC hbox 0; have hcz1 : w5.cell? ⟨g8, 1, none⟩ = some (.slice none 0 0) := (ax hbox 1).trans rfl; have hfz1 := aC hbox 1; have hcz2 : w5.cell? ⟨g8, 2, none⟩ = some (.bool false) := (ax hbox 2).trans rfl; have hfz2 := aC hbox 2; have hcz3 : w5.cell? ⟨g8, 3, none⟩ = some (.slice none 0 0) := (ax hbox 3).trans rfl; have hfz3 := aC hbox 3; have hcz4 : w5.cell? ⟨g8, 4, none⟩ = some (.int .i64 0) := (ax hbox 4).trans rfl; have hfz4 := aC hbox 4; clear hbox hb hg)
          | ((with_reducible refine fD (t := 25) (p := 8) rfl ?_); refine gW (t := 25) (p := 8) (v := ?vo6) (w1 := (((((w5.setCell ⟨g8, 0, none⟩ (.string (au l x).f0)).setCell ⟨g8, 1, none⟩ (.slice A1 (au l x).f1.length c1)).setCell ⟨g8, 2, none⟩ (.bool true)).setCell ⟨g8, 3, none⟩ (.slice A3 (au l x).f3.length c3)).setCell ⟨g8, 4, none⟩ (.int .i64 (au l x).f4))) ?hg ?ho ?hn ?hr ?_; (case ho => rfl); (case hg => rfl); (case hn => rfl); (case hr => first | (go_simp; done) | (go_simp; rfl)); intro w6 hw; have n0_ := af.mk (FP.below HF.1 (w2 := w6) (by rw [hw]; exact bK (bK (bK (bK (bK HB5.1 GE8.1) GE8.1) GE8.1) GE8.1) GE8.1)); have n1_ : af (w6.heap[g8]? = some (.cells #[.string (au l x).f0, .slice A1 (au l x).f1.length c1, .bool true, .slice A3 (au l x).f3.length c3, .int .i64 (au l x).f4] 25 (0, 0))) := ⟨by rw [hw]; refine aU (cs := #[.string (au l x).f0, .slice A1 (au l x).f1.length c1, .bool true, .slice A3 (au l x).f3.length c3, .int .i64 0]) ?_ 4 _ rfl; refine aU (cs := #[.string (au l x).f0, .slice A1 (au l x).f1.length c1, .bool true, .slice none 0 0, .int .i64 0]) ?_ 3 _ rfl; refine aU (cs := #[.string (au l x).f0, .slice A1 (au l x).f1.length c1, .bool false, .slice none 0 0, .int .i64 0]) ?_ 2 _ rfl; refine aU (cs := #[.string (au l x).f0, .slice none 0 0, .bool false, .slice none 0 0, .int .i64 0]) ?_ 1 _ rfl; refine aU (cs := #[.string (⟨#[]⟩ : ByteArray), .slice none 0 0, .bool false, .slice none 0 0, .int .i64 0]) ?_ 0 _ rfl; exact BK8.1⟩; clear HF BK8 HB5 hw; (try clear hcz0 hcz1 hcz2 hcz3 hcz4 hfz0 hfz1 hfz2 hfz3 hfz4); (try clear hx0 hx1 hx2 hx3 hx4); have HF := n0_; have BK8 := n1_; clear n0_ n1_; have hl0 : w6.cell? ⟨g8, 0, none⟩ = some (.string (au l x).f0) := (ax BK8.1 0).trans rfl; have hl1 : w6.cell? ⟨g8, 1, none⟩ = some (.slice A1 (au l x).f1.length c1) := (ax BK8.1 1).trans rfl; have hl2 : w6.cell? ⟨g8, 2, none⟩ = some (.bool true) := (ax BK8.1 2).trans rfl; have hl3 : w6.cell? ⟨g8, 3, none⟩ = some (.slice A3 (au l x).f3.length c3) := (ax BK8.1 3).trans rfl; have hl4 : w6.cell? ⟨g8, 4, none⟩ = some (.int .i64 (au l x).f4) := (ax BK8.1 4).trans rfl)
          | ((with_reducible refine aj (f := 23) rfl ?_); (with_reducible refine aA (N := 18) rfl ?_); refine dW (some 18) rfl rfl Tryz.func23 (by kernel_rfl) rfl #[.agg #[.string (au l x).f0, .slice A1 (au l x).f1.length c1, .bool true, .slice A3 (au l x).f3.length c3, .int .i64 (au l x).f4]] rfl (by (try simp only [List.map_toArray, List.map_cons, List.map_nil]); first | done | rfl) ?_; (with_reducible refine (first_c k _ (HG.1.below HF.1.hB) (au l x) A1 c1 true A3 (au l x).f3.length c3 HB2.1 (Kd.di HR1.1 HF.1.hB) HC1.1 HO1.1 HN1.1 LN0.1).mono ?_); rintro e w7 ⟨rfl, hb⟩; refine ⟨_, rfl, ?_⟩; have n0_ := af.mk (FP.below HF.1 hb); have n1_ := af.mk (aZ BK8.1 hb); clear HF BK8; (try clear hl0 hl1 hl2 hl3 hl4); (try clear h3_ h5_); have HF := n0_; have BK8 := n1_; clear n0_ n1_ hb; have hl0 : w7.cell? ⟨g8, 0, none⟩ = some (.string (au l x).f0) := (ax BK8.1 0).trans rfl; have hl1 : w7.cell? ⟨g8, 1, none⟩ = some (.slice A1 (au l x).f1.length c1) := (ax BK8.1 1).trans rfl; have hl2 : w7.cell? ⟨g8, 2, none⟩ = some (.bool true) := (ax BK8.1 2).trans rfl; have hl3 : w7.cell? ⟨g8, 3, none⟩ = some (.slice A3 (au l x).f3.length c3) := (ax BK8.1 3).trans rfl; have hl4 : w7.cell? ⟨g8, 4, none⟩ = some (.int .i64 (au l x).f4) := (ax BK8.1 4).trans rfl; have h3_ : w7.cell? ⟨g3, 0, none⟩ = some (.pointer (some ⟨b, 0, none⟩)) := (ax HF.1.k3 0).trans rfl; have h5_ : w7.cell? ⟨g5, 0, none⟩ = some (.string front) := (ax HF.1.k5 0).trans rfl)
          | (go_at_call 48; (with_reducible refine (write_s w0.heap.size b g3 g5 front (str (gu (au l x))) s1 _ HF.1.ib HF.1.k3 HF.1.k5 LN1.1 HF.1.hB.size).mono ?_); rintro e w8 ⟨rfl, m1, m2, m3⟩; have n0_ := af.mk (FP.step HF.1 m1 m2 m3); have n1_ := af.mk (m3 _ _ _ _ (by decide) NE8.1 BK8.1); clear HF BK8; (try clear hl0 hl1 hl2 hl3 hl4); (try clear h3_ h5_); have HF := n0_; have BK8 := n1_; clear n0_ n1_ m1 m2 m3; have hl0 : w8.cell? ⟨g8, 0, none⟩ = some (.string (au l x).f0) := (ax BK8.1 0).trans rfl; have hl1 : w8.cell? ⟨g8, 1, none⟩ = some (.slice A1 (au l x).f1.length c1) := (ax BK8.1 1).trans rfl; have hl2 : w8.cell? ⟨g8, 2, none⟩ = some (.bool true) := (ax BK8.1 2).trans rfl; have hl3 : w8.cell? ⟨g8, 3, none⟩ = some (.slice A3 (au l x).f3.length c3) := (ax BK8.1 3).trans rfl; have hl4 : w8.cell? ⟨g8, 4, none⟩ = some (.int .i64 (au l x).f4) := (ax BK8.1 4).trans rfl; have h3_ : w8.cell? ⟨g3, 0, none⟩ = some (.pointer (some ⟨b, 0, none⟩)) := (ax HF.1.k3 0).trans rfl; have h5_ : w8.cell? ⟨g5, 0, none⟩ = some (.string front) := (ax HF.1.k5 0).trans rfl)
          | ((with_reducible refine aj (f := 28) rfl ?_); (with_reducible refine aA (N := 27) rfl ?_); refine dW (some 27) rfl rfl Tryz.func28 (by kernel_rfl) rfl #[.pointer (some ⟨b, 0, none⟩), .slice A3 (au l x).f3.length c3, .string (front ++ (⟨#[32, 32]⟩ : ByteArray))] rfl (by (try simp only [List.map_toArray, List.map_cons, List.map_nil]); first | done | rfl) ?_; (with_reducible refine (ih.out _ (HSZ.1) _ A3 c3 (n + 2) (s1 ++ ((front ++ (str (gu (au l x)))) ++ (⟨#[10]⟩ : ByteArray)).data.toList) b _ HR3.1 HC3.1 HO3.1 HN3.1 HF.1.hB HF.1.ib LN3.1 HF2.1).mono ?_); rintro e w9 ⟨rfl, m1, m2, m3⟩; refine ⟨_, rfl, ?_⟩; have n0_ := af.mk (FP.step HF.1 m1 m2 m3); have n1_ := af.mk (m3 _ _ _ _ (by decide) NE8.1 BK8.1); clear HF BK8; (try clear hl0 hl1 hl2 hl3 hl4); (try clear h3_ h5_); have HF := n0_; have BK8 := n1_; clear n0_ n1_ m1 m2 m3; have hl0 : w9.cell? ⟨g8, 0, none⟩ = some (.string (au l x).f0) := (ax BK8.1 0).trans rfl; have hl1 : w9.cell? ⟨g8, 1, none⟩ = some (.slice A1 (au l x).f1.length c1) := (ax BK8.1 1).trans rfl; have hl2 : w9.cell? ⟨g8, 2, none⟩ = some (.bool true) := (ax BK8.1 2).trans rfl; have hl3 : w9.cell? ⟨g8, 3, none⟩ = some (.slice A3 (au l x).f3.length c3) := (ax BK8.1 3).trans rfl; have hl4 : w9.cell? ⟨g8, 4, none⟩ = some (.int .i64 (au l x).f4) := (ax BK8.1 4).trans rfl; have h3_ : w9.cell? ⟨g3, 0, none⟩ = some (.pointer (some ⟨b, 0, none⟩)) := (ax HF.1.k3 0).trans rfl; have h5_ : w9.cell? ⟨g5, 0, none⟩ = some (.string front) := (ax HF.1.k5 0).trans rfl)
          | (go_at_call 48; (with_reducible refine (write_s w0.heap.size b g3 g5 front (⟨#[125]⟩ : ByteArray) ((s1 ++ ((front ++ (str (gu (au l x)))) ++ (⟨#[10]⟩ : ByteArray)).data.toList) ++ srcL (n + 2) (au l x).f3) _ HF.1.ib HF.1.k3 HF.1.k5 LN4.1 HF.1.hB.size).mono ?_); rintro e w10 ⟨rfl, m1, m2, m3⟩; have n0_ := af.mk (FP.step HF.1 m1 m2 m3); have n1_ := af.mk (m3 _ _ _ _ (by decide) NE8.1 BK8.1); clear HF BK8; (try clear hl0 hl1 hl2 hl3 hl4); (try clear h3_ h5_); have HF := n0_; have BK8 := n1_; clear n0_ n1_ m1 m2 m3; have hl0 : w10.cell? ⟨g8, 0, none⟩ = some (.string (au l x).f0) := (ax BK8.1 0).trans rfl; have hl1 : w10.cell? ⟨g8, 1, none⟩ = some (.slice A1 (au l x).f1.length c1) := (ax BK8.1 1).trans rfl; have hl2 : w10.cell? ⟨g8, 2, none⟩ = some (.bool true) := (ax BK8.1 2).trans rfl; have hl3 : w10.cell? ⟨g8, 3, none⟩ = some (.slice A3 (au l x).f3.length c3) := (ax BK8.1 3).trans rfl; have hl4 : w10.cell? ⟨g8, 4, none⟩ = some (.int .i64 (au l x).f4) := (ax BK8.1 4).trans rfl; have h3_ : w10.cell? ⟨g3, 0, none⟩ = some (.pointer (some ⟨b, 0, none⟩)) := (ax HF.1.k3 0).trans rfl; have h5_ : w10.cell? ⟨g5, 0, none⟩ = some (.string front) := (ax HF.1.k5 0).trans rfl))
        go_roundg k1
        case measure => omega
        case rel => exact ⟨x + 1, (by first | rfl | (simp; done) | (simp [*]; done)), ⟨by have := X0.1; omega⟩, ⟨by have := XK.1; omega⟩, _, HF, HSN⟩
      · have HB2 := af.mk (Bool.eq_false_iff.2 hb2)
        rw [HB2.1] at hx2
        rw [if_neg hb2] at hat
        have HSN : af (((s1 ++ ((front ++ (str (gu (au l x)))) ++ (⟨#[10]⟩ : ByteArray)).data.toList)) ++ srcL n (l.drop (x + 1).toNat) = s ++ srcL n l) := ⟨by have h := HS.1; rw [hat] at h; rw [← h, ll HFR.1, Pu.gM]; simp⟩
        clear hat hle hfl hb2
        go_wp2_with (first
          | ((with_reducible refine aA (N := 8) rfl ?_); refine eY ?hg (N := 8) ?hd (cs := #[.string (⟨#[]⟩ : ByteArray), .slice none 0 0, .bool false, .slice none 0 0, .int .i64 0]) (t := 25) ?hr ?_; (case hd => rfl); (case hg => rfl); (case hr => first | (go_simp; done) | (go_simp; rfl)); intro g8 hg w5 hbox hb; have HB5 := af.mk hb; have GE8 := af.mk (Nat.le_of_eq hg.symm); have NE8 := af.mk ((by rw [hg]; exact Nat.ne_of_gt (IsB.lt HF.1.ib)) : g8 ≠ b); have BK8 := af.mk hbox; have hcz0 : w5.cell? ⟨g8, 0, none⟩ = some (.string (⟨#[]⟩ : ByteArray)) := (ax hbox 0).trans rfl; have hfz0 := aC hbox 0; have hcz1 : w5.cell? ⟨g8, 1, none⟩ = some (.slice none 0 0) := (ax hbox 1).trans rfl; have hfz1 := aC hbox 1; have hcz2 : w5.cell? ⟨g8, 2, none⟩ = some (.bool false) := (ax hbox 2).trans rfl; have hfz2 := aC hbox 2; have hcz3 : w5.cell? ⟨g8, 3, none⟩ = some (.slice none 0 0) := (ax hbox 3).trans rfl; have hfz3 := aC hbox 3; have hcz4 : w5.cell? ⟨g8, 4, none⟩ = some (.int .i64 0) := (ax hbox 4).trans rfl; have hfz4 := aC hbox 4; clear hbox hb hg)
          | ((with_reducible refine fD (t := 25) (p := 8) rfl ?_); refine gW (t := 25) (p := 8) (v := ?vo6) (w1 := (((((w5.setCell ⟨g8, 0, none⟩ (.string (au l x).f0)).setCell ⟨g8, 1, none⟩ (.slice A1 (au l x).f1.length c1)).setCell ⟨g8, 2, none⟩ (.bool false)).setCell ⟨g8, 3, none⟩ (.slice A3 (au l x).f3.length c3)).setCell ⟨g8, 4, none⟩ (.int .i64 (au l x).f4))) ?hg ?ho ?hn ?hr ?_; (case ho => rfl); (case hg => rfl); (case hn => rfl); (case hr => first | (go_simp; done) | (go_simp; rfl)); intro w6 hw; have n0_ := af.mk (FP.below HF.1 (w2 := w6) (by rw [hw]; exact bK (bK (bK (bK (bK HB5.1 GE8.1) GE8.1) GE8.1) GE8.1) GE8.1)); have n1_ : af (w6.heap[g8]? = some (.cells #[.string (au l x).f0, .slice A1 (au l x).f1.length c1, .bool false, .slice A3 (au l x).f3.length c3, .int .i64 (au l x).f4] 25 (0, 0))) := ⟨by rw [hw]; refine aU (cs := #[.string (au l x).f0, .slice A1 (au l x).f1.length c1, .bool false, .slice A3 (au l x).f3.length c3, .int .i64 0]) ?_ 4 _ rfl; refine aU (cs := #[.string (au l x).f0, .slice A1 (au l x).f1.length c1, .bool false, .slice none 0 0, .int .i64 0]) ?_ 3 _ rfl; refine aU (cs := #[.string (au l x).f0, .slice A1 (au l x).f1.length c1, .bool false, .slice none 0 0, .int .i64 0]) ?_ 2 _ rfl; refine aU (cs := #[.string (au l x).f0, .slice none 0 0, .bool false, .slice none 0 0, .int .i64 0]) ?_ 1 _ rfl; refine aU (cs := #[.string (⟨#[]⟩ : ByteArray), .slice none 0 0, .bool false, .slice none 0 0, .int .i64 0]) ?_ 0 _ rfl; exact BK8.1⟩; clear HF BK8 HB5 hw; (try clear hcz0 hcz1 hcz2 hcz3 hcz4 hfz0 hfz1 hfz2 hfz3 hfz4); (try clear hx0 hx1 hx2 hx3 hx4); have HF := n0_; have BK8 := n1_; clear n0_ n1_; have hl0 : w6.cell? ⟨g8, 0, none⟩ = some (.string (au l x).f0) := (ax BK8.1 0).trans rfl; have hl1 : w6.cell? ⟨g8, 1, none⟩ = some (.slice A1 (au l x).f1.length c1) := (ax BK8.1 1).trans rfl; have hl2 : w6.cell? ⟨g8, 2, none⟩ = some (.bool false) := (ax BK8.1 2).trans rfl; have hl3 : w6.cell? ⟨g8, 3, none⟩ = some (.slice A3 (au l x).f3.length c3) := (ax BK8.1 3).trans rfl; have hl4 : w6.cell? ⟨g8, 4, none⟩ = some (.int .i64 (au l x).f4) := (ax BK8.1 4).trans rfl)
          | ((with_reducible refine aj (f := 23) rfl ?_); (with_reducible refine aA (N := 18) rfl ?_); refine dW (some 18) rfl rfl Tryz.func23 (by kernel_rfl) rfl #[.agg #[.string (au l x).f0, .slice A1 (au l x).f1.length c1, .bool false, .slice A3 (au l x).f3.length c3, .int .i64 (au l x).f4]] rfl (by (try simp only [List.map_toArray, List.map_cons, List.map_nil]); first | done | rfl) ?_; (with_reducible refine (first_c k _ (HG.1.below HF.1.hB) (au l x) A1 c1 false A3 (au l x).f3.length c3 HB2.1 (Kd.di HR1.1 HF.1.hB) HC1.1 HO1.1 HN1.1 LN0.1).mono ?_); rintro e w7 ⟨rfl, hb⟩; refine ⟨_, rfl, ?_⟩; have n0_ := af.mk (FP.below HF.1 hb); have n1_ := af.mk (aZ BK8.1 hb); clear HF BK8; (try clear hl0 hl1 hl2 hl3 hl4); (try clear h3_ h5_); have HF := n0_; have BK8 := n1_; clear n0_ n1_ hb; have hl0 : w7.cell? ⟨g8, 0, none⟩ = some (.string (au l x).f0) := (ax BK8.1 0).trans rfl; have hl1 : w7.cell? ⟨g8, 1, none⟩ = some (.slice A1 (au l x).f1.length c1) := (ax BK8.1 1).trans rfl; have hl2 : w7.cell? ⟨g8, 2, none⟩ = some (.bool false) := (ax BK8.1 2).trans rfl; have hl3 : w7.cell? ⟨g8, 3, none⟩ = some (.slice A3 (au l x).f3.length c3) := (ax BK8.1 3).trans rfl; have hl4 : w7.cell? ⟨g8, 4, none⟩ = some (.int .i64 (au l x).f4) := (ax BK8.1 4).trans rfl; have h3_ : w7.cell? ⟨g3, 0, none⟩ = some (.pointer (some ⟨b, 0, none⟩)) := (ax HF.1.k3 0).trans rfl; have h5_ : w7.cell? ⟨g5, 0, none⟩ = some (.string front) := (ax HF.1.k5 0).trans rfl)
          | (go_at_call 48; (with_reducible refine (write_s w0.heap.size b g3 g5 front (str (gu (au l x))) s1 _ HF.1.ib HF.1.k3 HF.1.k5 LN1.1 HF.1.hB.size).mono ?_); rintro e w8 ⟨rfl, m1, m2, m3⟩; have n0_ := af.mk (FP.step HF.1 m1 m2 m3); have n1_ := af.mk (m3 _ _ _ _ (by decide) NE8.1 BK8.1); clear HF BK8; (try clear hl0 hl1 hl2 hl3 hl4); (try clear h3_ h5_); have HF := n0_; have BK8 := n1_; clear n0_ n1_ m1 m2 m3; have hl0 : w8.cell? ⟨g8, 0, none⟩ = some (.string (au l x).f0) := (ax BK8.1 0).trans rfl; have hl1 : w8.cell? ⟨g8, 1, none⟩ = some (.slice A1 (au l x).f1.length c1) := (ax BK8.1 1).trans rfl; have hl2 : w8.cell? ⟨g8, 2, none⟩ = some (.bool false) := (ax BK8.1 2).trans rfl; have hl3 : w8.cell? ⟨g8, 3, none⟩ = some (.slice A3 (au l x).f3.length c3) := (ax BK8.1 3).trans rfl; have hl4 : w8.cell? ⟨g8, 4, none⟩ = some (.int .i64 (au l x).f4) := (ax BK8.1 4).trans rfl; have h3_ : w8.cell? ⟨g3, 0, none⟩ = some (.pointer (some ⟨b, 0, none⟩)) := (ax HF.1.k3 0).trans rfl; have h5_ : w8.cell? ⟨g5, 0, none⟩ = some (.string front) := (ax HF.1.k5 0).trans rfl))
        go_roundg k1
        case measure => omega
        case rel => exact ⟨x + 1, (by first | rfl | (simp; done) | (simp [*]; done)), ⟨by have := X0.1; omega⟩, ⟨by have := XK.1; omega⟩, _, HF, HSN⟩
    · have c13b : decide (x < (l.length : Int)) = false := decide_eq_false c13
      have hs : s1 = s ++ srcL n l := by
        have h := HS.1
        rw [List.drop_of_length_le (by have := X0.1; omega)] at h
        simpa [srcL] using h
      have HS1 := af.mk hs
      clear c13 HS hs
      go_wp2
      first | go_end0 | ((try simp only [Exit.inBlock, Exit.then]); refine bodyPost_ret (results_none rfl _ _ _) rfl ?_)
      exact ⟨rfl, HS1.1 ▸ HF.1.ib, HF.1.hQ, HF.1.fr⟩
open Go.Proofs.YtkifdadhojbohaaGreatDoor.Pu (srcL str SpA SpG lst szL AllC)
theorem dA.calls (k : Nat) (A0 : Option Addr) (c0 : Nat) (l0 : List (S41)) (r1 : ByteArray) (r2 : Int) (w : World) (hG : Gl w) (hr0 : Kd.C k41 w A0 l0.length l0) (hc0 : l0.length ≤ c0) (h : dA.f k l0 = some (r1, r2)) :
    Calls Tryz.prog 11 #[.slice A0 l0.length c0] w fun e w' => e = .returned (.tuple #[.string r1, .int .i64 r2]) ∧ Below w.heap.size w w' := by
  have HG := af.mk hG
  have HR := af.mk hr0
  have HC := af.mk hc0
  clear hG hr0 hc0
  unfold dA.f at h
  obtain ⟨e, A10, h⟩ := Option.bind_eq_some_iff.mp h
  have A1 := af.mk A10
  clear A10
  by_cases c1 : e = 0
  · rw [if_pos c1] at h
    subst c1
    by_cases hs : SpG k l0
    · rw [if_pos hs] at h
      have HS1 : af (AllC (fun c => ∀ t ∈ c.f1, SpA k t) l0) := ⟨hs.2.2⟩
      have HS2 : af (szL l0 ≤ 70368744177664) := ⟨hs.2.1⟩
      have HE : af (lst (⟨#[]⟩ : ByteArray) = List.replicate 0 32) := ⟨rfl⟩
      have LN : af (([] : List UInt8).length + (srcL 0 l0).length ≤ 70368744177664) := ⟨by rw [List.length_nil]; have := hs.1; omega⟩
      clear hs
      by_cases h6 : 65536 < (srcL 0 l0).length
      · rw [if_pos h6] at h
        cases h
        have z1 : decide ((((([] : List UInt8) ++ srcL 0 l0).length : Nat) : Int) > 65536) = true := decide_eq_true (by rw [List.nil_append]; omega)
        have z2 : decide ((65536 : Int) < ((([] : List UInt8) ++ srcL 0 l0).length : Nat)) = true := decide_eq_true (by rw [List.nil_append]; omega)
        have z3 : ((65536 : Int) < ((srcL 0 l0).length : Nat)) = True := eq_true (by omega)
        have z4 : (65536 < (srcL 0 l0).length) = True := eq_true h6
        clear h6
        go_enter Tryz.func11, Tryz.ntmps11
        go_wp2_with (first
          | ((with_reducible refine aj (f := 22) rfl ?_); refine dW (some 7) rfl rfl Tryz.func22 (by kernel_rfl) rfl #[.slice A0 l0.length c0] rfl (by (try simp only [List.map_toArray, List.map_cons, List.map_nil]); first | done | rfl) ?_; (with_reducible refine (dP.calls k _ _ l0 _ _ HR.1 HC.1 A1.1).mono ?_); rintro e w1 ⟨rfl, hb⟩; refine ⟨_, rfl, ?_⟩; have HB := af.mk hb; clear hb)
          | ((with_reducible refine aA (N := 5) rfl ?_); refine eY ?hg (N := 5) ?hd (cs := #[.pointer none, .slice none 0 0]) (t := 55) ?hr ?_; (case hd => rfl); (case hg => rfl); (case hr => first | (go_simp; done) | (go_simp; rfl)); intro b hg w2 hbox hb; have HI : af (IsB w.heap.size b [] w2) := ⟨Or.inl ⟨(by rw [hg]; exact bH HB.1), .slice none 0 0, hbox, World.ownsRow_nil _ _ _ _, by simp [Value.ownBlock]⟩⟩; have n0_ := af.mk (ah HB.1 hb); clear HB; have HB := n0_; clear n0_ hg hbox hb)
          | ((with_reducible refine aj (f := 28) rfl ?_); refine dW (some 12) rfl rfl Tryz.func28 (by kernel_rfl) rfl #[.pointer (some ⟨b, 0, none⟩), .slice A0 l0.length c0, .string (⟨#[]⟩ : ByteArray)] rfl (by (try simp only [List.map_toArray, List.map_cons, List.map_nil]); first | done | rfl) ?_; (with_reducible refine (print_s w HG.1 k _ l0 (Nat.le_refl _) _ A0 c0 0 [] b (⟨#[]⟩ : ByteArray) HR.1 HC.1 HS1.1 HS2.1 HB.1 HI.1 LN.1 HE.1).mono ?_); rintro e w3 ⟨rfl, m1, m2, m3⟩; refine ⟨_, rfl, ?_⟩; have n0_ := af.mk (HB.1.trans m2); have n1_ := af.mk m1; clear HB HI m1 m2 m3; have HB := n0_; have HI := n1_; clear n0_ n1_)
          | ((with_reducible refine aj (f := 29) rfl ?_); refine dW (some 13) rfl rfl Tryz.func29 (by kernel_rfl) rfl #[.pointer (some ⟨b, 0, none⟩)] rfl (by (try simp only [List.map_toArray, List.map_cons, List.map_nil]); first | done | rfl) ?_; (with_reducible refine (Len_s w.heap.size b ([] ++ srcL 0 l0) _ HI.1).mono ?_); rintro e w4 ⟨rfl, rfl⟩; refine ⟨_, rfl, ?_⟩))
        go_ret2
        exact ⟨rfl, HB.1⟩
      · rw [if_neg h6] at h
        cases h
        have z1 : decide ((((([] : List UInt8) ++ srcL 0 l0).length : Nat) : Int) > 65536) = false := decide_eq_false (by rw [List.nil_append]; omega)
        have z2 : decide ((65536 : Int) < ((([] : List UInt8) ++ srcL 0 l0).length : Nat)) = false := decide_eq_false (by rw [List.nil_append]; omega)
        have z3 : ((65536 : Int) < ((srcL 0 l0).length : Nat)) = False := eq_false (by omega)
        have z4 : (65536 < (srcL 0 l0).length) = False := eq_false h6
        clear h6
        go_enter Tryz.func11, Tryz.ntmps11
        go_wp2_with (first
          | ((with_reducible refine aj (f := 22) rfl ?_); refine dW (some 7) rfl rfl Tryz.func22 (by kernel_rfl) rfl #[.slice A0 l0.length c0] rfl (by (try simp only [List.map_toArray, List.map_cons, List.map_nil]); first | done | rfl) ?_; (with_reducible refine (dP.calls k _ _ l0 _ _ HR.1 HC.1 A1.1).mono ?_); rintro e w1 ⟨rfl, hb⟩; refine ⟨_, rfl, ?_⟩; have HB := af.mk hb; clear hb)
          | ((with_reducible refine aA (N := 5) rfl ?_); refine eY ?hg (N := 5) ?hd (cs := #[.pointer none, .slice none 0 0]) (t := 55) ?hr ?_; (case hd => rfl); (case hg => rfl); (case hr => first | (go_simp; done) | (go_simp; rfl)); intro b hg w2 hbox hb; have HI : af (IsB w.heap.size b [] w2) := ⟨Or.inl ⟨(by rw [hg]; exact bH HB.1), .slice none 0 0, hbox, World.ownsRow_nil _ _ _ _, by simp [Value.ownBlock]⟩⟩; have n0_ := af.mk (ah HB.1 hb); clear HB; have HB := n0_; clear n0_ hg hbox hb)
          | ((with_reducible refine aj (f := 28) rfl ?_); refine dW (some 12) rfl rfl Tryz.func28 (by kernel_rfl) rfl #[.pointer (some ⟨b, 0, none⟩), .slice A0 l0.length c0, .string (⟨#[]⟩ : ByteArray)] rfl (by (try simp only [List.map_toArray, List.map_cons, List.map_nil]); first | done | rfl) ?_; (with_reducible refine (print_s w HG.1 k _ l0 (Nat.le_refl _) _ A0 c0 0 [] b (⟨#[]⟩ : ByteArray) HR.1 HC.1 HS1.1 HS2.1 HB.1 HI.1 LN.1 HE.1).mono ?_); rintro e w3 ⟨rfl, m1, m2, m3⟩; refine ⟨_, rfl, ?_⟩; have n0_ := af.mk (HB.1.trans m2); have n1_ := af.mk m1; clear HB HI m1 m2 m3; have HB := n0_; have HI := n1_; clear n0_ n1_)
          | ((with_reducible refine aj (f := 29) rfl ?_); refine dW (some 13) rfl rfl Tryz.func29 (by kernel_rfl) rfl #[.pointer (some ⟨b, 0, none⟩)] rfl (by (try simp only [List.map_toArray, List.map_cons, List.map_nil]); first | done | rfl) ?_; (with_reducible refine (Len_s w.heap.size b ([] ++ srcL 0 l0) _ HI.1).mono ?_); rintro e w4 ⟨rfl, rfl⟩; refine ⟨_, rfl, ?_⟩)
          | ((with_reducible refine aj (f := 30) rfl ?_); refine dW (some 15) rfl rfl Tryz.func30 (by kernel_rfl) rfl #[.pointer (some ⟨b, 0, none⟩)] rfl (by (try simp only [List.map_toArray, List.map_cons, List.map_nil]); first | done | rfl) ?_; (with_reducible refine (String_a w.heap.size b ([] ++ srcL 0 l0) _ HI.1 HB.1.size).mono ?_); rintro e w5 ⟨rfl, hb⟩; refine ⟨_, rfl, ?_⟩; have n0_ := af.mk (HB.1.trans hb); clear HB hb; have HB := n0_; clear n0_))
        go_ret2
        exact ⟨rfl, HB.1⟩
    · rw [if_neg hs] at h
      cases h
  · rw [if_neg c1] at h
    cases h
    have c1b0 : (r2 == 0) = false := beq_eq_false_iff_ne.mpr c1
    have c1b1 : (r2 != 0) = true := bne_iff_ne.mpr c1
    go_enter Tryz.func11, Tryz.ntmps11
    go_wp2_with (first
      | ((with_reducible refine aj (f := 22) rfl ?_); refine dW (some 7) rfl rfl Tryz.func22 (by kernel_rfl) rfl #[.slice A0 l0.length c0] rfl (by (try simp only [List.map_toArray, List.map_cons, List.map_nil]); first | done | rfl) ?_; (with_reducible refine (dP.calls k _ _ l0 _ _ HR.1 HC.1 A1.1).mono ?_); rintro e w1 ⟨rfl, hb⟩; refine ⟨_, rfl, ?_⟩; have HB := af.mk hb; clear hb))
    go_ret2
    exact ⟨rfl, HB.1⟩
end Go.Proofs.YtkifdadhojbohaaGreatDoor.Pr
