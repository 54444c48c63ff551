/- chequerref04.Lay: the document's way to lay a matrix. -/
import Derived.Test.YtehjnekljodmgaaQ0
import Derived.Test.YtehjnekljodmgaaQ4
import Derived.Below
import Derived.Deep.Draws
import Derived.Deep.AppendLies
import Derived.Maps.AppendAt
import Derived.OwnWalk
import Derived.Laws.BytesArg
import Derived.Laws.MakeOwn
import Derived.Laws.OwnMore
import Derived.Deep.OwnRows
import Derived.Tactics
import Derived.Lib.ConvBytes
import Derived.Laws.Slices
import Derived.WalkKit
import Derived.KernelRfl
import Derived.RowKit3
import Derived.Deep.LoopGhost
import Derived.Deep.QuietTactic
import Derived.BigQuiet
import Derived.WideLaws
import Derived.Deep.DeepCutAuto
import Derived.Deep.CutBlock
import Derived.Deep.RegionHeld3
import Derived.Laws.Rows
import Derived.Lib.AppendStr
import Derived.ArgAppend
import Derived.Laws.IdiomCopy
import Derived.OrdersHeld
import Derived.Laws.BitsLemmas
import Derived.RowKit
import Derived.Test.YtehjnekljodmgaaMore
import Derived.Test.YtehjnekljodmgaaPeel
import Derived.Scope
import Derived.Test.YtehjnekljodmgaaWWords
import Derived.Test.YtehjnekljodmgaaWLast
import Derived.Test.YtehjnekljodmgaaWTab
import Derived.Test.YtehjnekljodmgaaWFour
import Derived.Test.YtehjnekljodmgaaWQPut
import Derived.Test.YtehjnekljodmgaaWApart
import Derived.Test.YtehjnekljodmgaaWArr
import Derived.Test.YtehjnekljodmgaaWZeros
import Derived.Test.YtehjnekljodmgaaWFoot
import Derived.Test.YtehjnekljodmgaaWKept
import Derived.Test.YtehjnekljodmgaaWShare
import Derived.Test.YtehjnekljodmgaaWN
import Derived.Test.YtehjnekljodmgaaWFootNe
import Derived.Test.YtehjnekljodmgaaWAt
import Derived.Test.YtehjnekljodmgaaWEqStruct
import Derived.Test.YtehjnekljodmgaaWRepsOne
import Derived.Test.YtehjnekljodmgaaWInv
import Derived.Test.YtehjnekljodmgaaWInvWords
import Derived.Test.YtehjnekljodmgaaWGuard
import Derived.Test.YtehjnekljodmgaaWNEv
import Derived.Test.YtehjnekljodmgaaWMore
namespace Go.Proofs.Ytehjnekljodmgaa.Q
open Go.RowKit Go.Proofs.YtehjnekljodmgaaW.PrintWords Go.Proofs.YtehjnekljodmgaaW.PrintLast
set_option linter.unusedVariables false
set_option linter.unusedSimpArgs false
/-- So many quarter turns. -/
def layQ (k : Nat) : Nat → Int → Int → List Int → Option (Int × Int × List Int)
  | 0, m0, m1, m2 => some (m0, m1, m2)
  | n + 1, m0, m1, m2 => (chequerref04_quarter.f k m0 m1 m2).bind fun t => layQ k n t.1 t.2.1 t.2.2
theorem layQ_mono (k : Nat) : ∀ n m0 m1 m2, LeO (layQ k n m0 m1 m2) (layQ (k + 1) n m0 m1 m2)
  | 0, _, _, _ => LeO.refl _
  | n + 1, m0, m1, m2 => by
    unfold layQ
    exact LeO.bind (chequerref04_quarter.mono m0 m1 m2 k) (fun t => layQ_mono k n _ _ _)
def chequerref04_Lay.f (k : Nat) (a0_0 a0_1 : Int) (l0_2 : List Int) (a1 : Int) : Option (Int × Int × List Int × Int) := if 0 ≤ a1 ∧ a1 ≤ 7 then ((if a1 > 3 then chequerref04_mirror.f k a0_0 a0_1 l0_2 else some (a0_0, a0_1, l0_2)).bind fun m => (layQ k (Int.tmod a1 4).toNat m.1 m.2.1 m.2.2).bind fun s => (chequerref03_Sized.f s.1 s.2.1).bind fun ok_ => if ok_ = true then some (s.1, s.2.1, s.2.2, 0) else some (0, 0, [], 4)) else some (0, 0, [], 1)
theorem chequerref04_Lay.mono : ∀ a0_0 a0_1 l0_2 a1 k, LeO (chequerref04_Lay.f k a0_0 a0_1 l0_2 a1) (chequerref04_Lay.f (k + 1) a0_0 a0_1 l0_2 a1) := by
  intro a0_0 a0_1 l0_2 a1 k
  unfold chequerref04_Lay.f
  refine LeO.ite (LeO.bind (LeO.ite (chequerref04_mirror.mono a0_0 a0_1 l0_2 k) (LeO.refl _)) (fun m => LeO.bind (layQ_mono k _ _ _ _) (fun s => LeO.refl _))) (LeO.refl _)
set_option maxRecDepth 100000 in
set_option maxHeartbeats 8000000 in
theorem chequerref04_Lay.calls (k : Nat) (a0_0 a0_1 : Int) (P0_2_ : Nat → Prop) (A0_2 : Option Addr) (c0_2 : Nat) (l0_2 : List Int) (a1 : Int) (r1 r2 : Int) (r3 : List Int) (r4 : Int) (w : World) (hs0_2 : Kd.V (Kd.int .u64) 41 w w.heap.size (fun k_ => P0_2_ k_) (.slice A0_2 l0_2.length c0_2) l0_2) (h : chequerref04_Lay.f k a0_0 a0_1 l0_2 a1 = some (r1, r2, r3, r4)) :
    Calls Try.prog 14 #[.agg #[.int .i64 a0_0, .int .i64 a0_1, .slice A0_2 l0_2.length c0_2], .int .i64 a1] w fun e w' => ∃ v2_ : Value, e = .returned (.tuple #[.agg #[.int .i64 r1, .int .i64 r2, v2_], .int .i64 r4]) ∧ Kd.V (Kd.int .u64) 41 w' w.heap.size (fun k_ => (P0_2_ k_ ∨ w.heap.size ≤ k_)) v2_ r3 ∧ Below w.heap.size w w' := by
  unfold chequerref04_Lay.f at h
  have hu1 := Try.underlying24
  have HS0 := Aside0.mk (Kd.V_bound hs0_2)
  clear hs0_2
  have HB := Aside0.mk (Below.refl w.heap.size w)
  by_cases hg : 0 ≤ a1 ∧ a1 ≤ 7
  · rw [if_pos hg] at h
    have d0 : decide (a1 < 0) = false := decide_eq_false (by omega)
    have d1 : decide (7 < a1) = false := decide_eq_false (by omega)
    have hg' := Aside0.mk hg
    obtain ⟨⟨p0, p1, p2⟩, hM, h⟩ := Option.bind_eq_some_iff.mp h
    obtain ⟨⟨s0, s1, s2⟩, hQ, h⟩ := Option.bind_eq_some_iff.mp h
    obtain ⟨ok_, hS, h⟩ := Option.bind_eq_some_iff.mp h
    dsimp only at hQ hS h
    have HQ := Aside0.mk hQ
    have HS := Aside0.mk hS
    clear hQ hS hg
    by_cases c3 : a1 > 3
    · rw [if_pos c3] at hM
      have d2 : decide (3 < a1) = true := decide_eq_true c3
      clear c3
      have HM := Aside0.mk hM
      clear hM
      go_enter Try.func14, Try.ntmps14
      go_wp2_with (first | ((with_reducible refine gate_dst (N := 2) rfl ?_); refine box_event ?hg (N := 2) ?hd (cs := #[.int .i64 a0_0, .int .i64 a0_1, .slice A0_2 l0_2.length c0_2]) (t := 24) ?hr ?_; (case hd => rfl); (case hg => rfl); (case hr => first | (go_simp; done) | (go_simp; rfl)); intro gb1 hg w2 hbox hb; have n0_ := Aside0.mk (below_step (by repeat (first | (with_reducible first | exact HB.out | apply below_alloc | apply pw_below_drewN | apply below_drew1) | exact HB.out)) hb); have n1_ := Aside0.mk (hbox); have n2_ := Aside0.mk ((by rw [hg]; exact (below_size (by repeat (first | (with_reducible first | exact HB.out | apply below_alloc | apply pw_below_drewN | apply below_drew1) | exact HB.out))) : w.heap.size ≤ gb1)); clear HB; have HB := n0_; have BK1 := n1_; have GE1 := n2_; clear n0_ n1_ n2_; clear hb hbox hg) | ((with_reducible refine gate_dst (N := 4) rfl ?_); refine box_event ?hg (N := 4) ?hd (cs := #[.int .i64 0, .int .i64 0, .slice none 0 0]) (t := 24) ?hr ?_; (case hd => rfl); (case hg => rfl); (case hr => first | (go_simp; done) | (go_simp; rfl)); intro gb2 hg w3 hbox hb; have n0_ := Aside0.mk (blk_below (g := gb1) (o := .cells #[.int .i64 a0_0, .int .i64 a0_1, .slice A0_2 l0_2.length c0_2] 24 (0, 0)) (by (with_reducible repeat (first | refine blk_drewN ?_ _ | refine blk_drew ?_ | refine blk_alloc ?_ _)); exact BK1.out) hb); have n1_ := Aside0.mk (below_step (by repeat (first | (with_reducible first | exact HB.out | apply below_alloc | apply pw_below_drewN | apply below_drew1) | exact HB.out)) hb); have n2_ := Aside0.mk (hbox); have n3_ := Aside0.mk ((by rw [hg]; exact (below_size (by repeat (first | (with_reducible first | exact HB.out | apply below_alloc | apply pw_below_drewN | apply below_drew1) | exact HB.out))) : w.heap.size ≤ gb2)); have n4_ := Aside0.mk ((by rw [hg]; have h_ := blk_lt BK1.out; (first | exact Nat.ne_of_lt h_ | (simp at h_ ⊢; omega))) : gb1 ≠ gb2); clear HB BK1; have BK1 := n0_; have HB := n1_; have BK2 := n2_; have GE2 := n3_; have NB := n4_; clear n0_ n1_ n2_ n3_ n4_; clear hb hbox hg; have hnb := NB.out; have hnc := Ne.symm NB.out; have hcz0_0 : w3.cell? ⟨gb1, 0, none⟩ = some (.int .i64 a0_0) := (blk_cell BK1.out 0).trans rfl; have hcz0_1 : w3.cell? ⟨gb1, 1, none⟩ = some (.int .i64 a0_1) := (blk_cell BK1.out 1).trans rfl; have hcz0_2 : w3.cell? ⟨gb1, 2, none⟩ = some (.slice A0_2 l0_2.length c0_2) := (blk_cell BK1.out 2).trans rfl; have hfz0_0 := blk_frozen BK1.out 0; have hfz0_1 := blk_frozen BK1.out 1; have hfz0_2 := blk_frozen BK1.out 2) | (go_at_call 36; (with_reducible refine (chequerref04_mirror.calls k a0_0 a0_1 _ _ l0_2 p0 p1 p2 _ ?side1 ?side2 HM.out).mono ?_); (case side1 => exact (Kd.V_reads' (Kd.V_below HS0.out (by repeat (first | (with_reducible first | exact HB.out | apply below_alloc | apply pw_below_drewN | apply below_drew1 | refine below_set ?_ GE1.out | refine below_set ?_ GE2.out) | exact HB.out)))).2.2); (case side2 => exact (Kd.V_reads' HS0.out).2.1); rintro e w5 ⟨v5, rfl, hR, hb⟩; obtain ⟨B_, b_, ev⟩ := Kd.R_slice hR; subst ev; have n0_ := Aside0.mk (blk_below (g := gb1) (o := .cells #[.int .i64 a0_0, .int .i64 a0_1, .slice A0_2 l0_2.length c0_2] 24 (0, 0)) (by (with_reducible repeat (first | refine blk_drewN ?_ _ | refine blk_drew ?_ | refine blk_alloc ?_ _)); exact BK1.out) hb); have n1_ := Aside0.mk (blk_below (g := gb2) (o := .cells #[.int .i64 0, .int .i64 0, .slice none 0 0] 24 (0, 0)) (by (with_reducible repeat (first | refine blk_drewN ?_ _ | refine blk_drew ?_ | refine blk_alloc ?_ _)); exact BK2.out) hb); have n2_ := Aside0.mk (below_step (by repeat (first | (with_reducible first | exact HB.out | apply below_alloc | apply pw_below_drewN | apply below_drew1 | refine below_set ?_ GE1.out | refine below_set ?_ GE2.out) | exact HB.out)) hb); have n3_ := Aside0.mk (Kd.V_mono (ok' := (fun k_ => (P0_2_ k_ ∨ w.heap.size ≤ k_) ∧ k_ ≠ gb1 ∧ k_ ≠ gb2)) (base := w.heap.size) (Kd.R_V (Kd.R_bound hR)) (fun k_ hk_ => ⟨.inr (Nat.le_trans (below_size (by repeat (first | (with_reducible first | exact HB.out | apply below_alloc | apply pw_below_drewN | apply below_drew1 | refine below_set ?_ GE1.out | refine below_set ?_ GE2.out) | exact HB.out))) hk_.2.1), (fun e_ => Nat.lt_irrefl _ (Nat.lt_of_lt_of_le (e_ ▸ blk_lt (show _ = some (.cells #[.int .i64 a0_0, .int .i64 a0_1, .slice A0_2 l0_2.length c0_2] 24 (0, 0)) by (with_reducible repeat (first | refine blk_drewN ?_ _ | refine blk_drew ?_ | refine blk_alloc ?_ _)); exact BK1.out)) hk_.2.1)), (fun e_ => Nat.lt_irrefl _ (Nat.lt_of_lt_of_le (e_ ▸ blk_lt (show _ = some (.cells #[.int .i64 0, .int .i64 0, .slice none 0 0] 24 (0, 0)) by (with_reducible repeat (first | refine blk_drewN ?_ _ | refine blk_drew ?_ | refine blk_alloc ?_ _)); exact BK2.out)) hk_.2.1))⟩)); clear BK1 BK2 HB; have BK1 := n0_; have BK2 := n1_; have HB := n2_; have HV := n3_; clear n0_ n1_ n2_ n3_ hR hb; have hnb := NB.out; have hnc := Ne.symm NB.out; have hcz1_0 : w5.cell? ⟨gb1, 0, none⟩ = some (.int .i64 a0_0) := (blk_cell BK1.out 0).trans rfl; have hcz1_1 : w5.cell? ⟨gb1, 1, none⟩ = some (.int .i64 a0_1) := (blk_cell BK1.out 1).trans rfl; have hcz1_2 : w5.cell? ⟨gb1, 2, none⟩ = some (.slice A0_2 l0_2.length c0_2) := (blk_cell BK1.out 2).trans rfl; have hfz1_0 := blk_frozen BK1.out 0; have hfz1_1 := blk_frozen BK1.out 1; have hfz1_2 := blk_frozen BK1.out 2))
      go_loopg [6] ((Int.tmod a1 4).toNat + 1) (fun kq v6 w' => ∃ (x6 m0 m1 : Int) (m2 : List Int) (u : Value), v6 = .int .i64 x6 ∧ Aside0 (0 ≤ x6 ∧ x6 ≤ Int.tmod a1 4 ∧ kq = (Int.tmod a1 4 - x6).toNat + 1) ∧ Aside0 (layQ k (Int.tmod a1 4 - x6).toNat m0 m1 m2 = some (s0, s1, s2)) ∧ Aside0 (Kd.V (Kd.int .u64) 41 w' w.heap.size (fun k_ => (P0_2_ k_ ∨ w.heap.size ≤ k_) ∧ k_ ≠ gb1 ∧ k_ ≠ gb2) u m2) ∧ Aside0 (w'.heap[gb1]? = some (.cells #[.int .i64 m0, .int .i64 m1, u] 24 (0, 0))) ∧ Aside0 (w'.heap[gb2]? = some (.cells #[.int .i64 0, .int .i64 0, .slice none 0 0] 24 (0, 0))) ∧ Aside0 (Below w.heap.size w w'))
      case atStart => exact ⟨0, p0, p1, p2, .slice B_ p2.length b_, rfl, ⟨by have h1_ : 0 ≤ Int.tmod a1 4 := Int.tmod_nonneg 4 hg'.out.1; omega⟩, ⟨by rw [Int.sub_zero]; exact HQ.out⟩, ⟨by (with_reducible repeat (first | apply Kd.V_alloc | apply Kd.V_drewN | apply Kd.V_drew)); exact Kd.V_far (p := ⟨gb1, 2, none⟩) (by (with_reducible repeat (first | apply Kd.V_alloc | apply Kd.V_drewN | apply Kd.V_drew)); exact Kd.V_far (p := ⟨gb1, 1, none⟩) (by (with_reducible repeat (first | apply Kd.V_alloc | apply Kd.V_drewN | apply Kd.V_drew)); exact Kd.V_far (p := ⟨gb1, 0, none⟩) (by (with_reducible repeat (first | apply Kd.V_alloc | apply Kd.V_drewN | apply Kd.V_drew)); exact HV.out) (fun k_ hk_ => hk_.2.1) _) (fun k_ hk_ => hk_.2.1) _) (fun k_ hk_ => hk_.2.1) _⟩, ⟨by (with_reducible repeat (first | refine blk_drewN ?_ _ | refine blk_drew ?_ | refine blk_alloc ?_ _)); refine blk_put (cs := #[.int .i64 p0, .int .i64 p1, (.slice A0_2 l0_2.length c0_2)]) ?_ 2 _ rfl; (with_reducible repeat (first | refine blk_drewN ?_ _ | refine blk_drew ?_ | refine blk_alloc ?_ _)); refine blk_put (cs := #[.int .i64 p0, .int .i64 a0_1, (.slice A0_2 l0_2.length c0_2)]) ?_ 1 _ rfl; (with_reducible repeat (first | refine blk_drewN ?_ _ | refine blk_drew ?_ | refine blk_alloc ?_ _)); refine blk_put (cs := #[.int .i64 a0_0, .int .i64 a0_1, (.slice A0_2 l0_2.length c0_2)]) ?_ 0 _ rfl; (with_reducible repeat (first | refine blk_drewN ?_ _ | refine blk_drew ?_ | refine blk_alloc ?_ _)); exact BK1.out⟩, ⟨by (with_reducible repeat (first | refine blk_drewN ?_ _ | refine blk_drew ?_ | refine blk_alloc ?_ _)); refine blk_far ?_ hnc _; (with_reducible repeat (first | refine blk_drewN ?_ _ | refine blk_drew ?_ | refine blk_alloc ?_ _)); refine blk_far ?_ hnc _; (with_reducible repeat (first | refine blk_drewN ?_ _ | refine blk_drew ?_ | refine blk_alloc ?_ _)); refine blk_far ?_ hnc _; (with_reducible repeat (first | refine blk_drewN ?_ _ | refine blk_drew ?_ | refine blk_alloc ?_ _)); exact BK2.out⟩, ⟨(by repeat (first | (with_reducible first | exact HB.out | apply below_alloc | apply pw_below_drewN | apply below_drew1 | refine below_set ?_ GE1.out | refine below_set ?_ GE2.out) | exact HB.out))⟩⟩
      case round =>
        clear hcz0_0 hcz0_1 hcz0_2 hfz0_0 hfz0_1 hfz0_2 hcz1_0 hcz1_1 hcz1_2 hfz1_0 hfz1_1 hfz1_2 hnb hnc HV HB BK1 BK2
        obtain ⟨x6, m0, m1, m2, u, rfl, HK, HQ, HV, BK1, BK2, HB⟩ := hrel
        obtain ⟨A_, c_, eu⟩ := Kd.V_slice HV.out
        subst eu
        have hcz1_0 : wr.cell? ⟨gb1, 0, none⟩ = some (.int .i64 m0) := (blk_cell BK1.out 0).trans rfl
        have hcz1_1 : wr.cell? ⟨gb1, 1, none⟩ = some (.int .i64 m1) := (blk_cell BK1.out 1).trans rfl
        have hcz1_2 : wr.cell? ⟨gb1, 2, none⟩ = some (.slice A_ m2.length c_) := (blk_cell BK1.out 2).trans rfl
        have hfz1_0 := blk_frozen BK1.out 0
        have hfz1_1 := blk_frozen BK1.out 1
        have hfz1_2 := blk_frozen BK1.out 2
        have hcz2_0 : wr.cell? ⟨gb2, 0, none⟩ = some (.int .i64 0) := (blk_cell BK2.out 0).trans rfl
        have hcz2_1 : wr.cell? ⟨gb2, 1, none⟩ = some (.int .i64 0) := (blk_cell BK2.out 1).trans rfl
        have hcz2_2 : wr.cell? ⟨gb2, 2, none⟩ = some (.slice none 0 0) := (blk_cell BK2.out 2).trans rfl
        have hfz2_0 := blk_frozen BK2.out 0
        have hfz2_1 := blk_frozen BK2.out 1
        have hfz2_2 := blk_frozen BK2.out 2
        have hnb := NB.out
        have hnc := Ne.symm NB.out
        by_cases c6 : x6 < Int.tmod a1 4
        · have c6b0 : decide (x6 < Int.tmod a1 4) = true := decide_eq_true c6
          have hn : ∃ d, (Int.tmod a1 4 - x6).toNat = d + 1 := ⟨(Int.tmod a1 4 - x6).toNat - 1, by omega⟩
          obtain ⟨d, hd⟩ := hn
          have H := HQ.out
          rw [hd] at H
          rw [layQ] at H
          obtain ⟨⟨t1, t2, t3⟩, A70, H⟩ := Option.bind_eq_some_iff.mp H
          have A7 := Aside0.mk A70
          have H' := Aside0.mk H
          have hd' := Aside0.mk hd
          have hk' := Aside0.mk HK.out
          have hc' := Aside0.mk c6
          clear HQ H A70 hd c6 HK
          go_wp2_with (first | (go_at_call 37; (with_reducible refine (chequerref04_quarter.calls k m0 m1 _ _ m2 t1 t2 t3 _ ?side1 ?side2 A7.out).mono ?_); (case side1 => exact (Kd.V_reads' (e := 41) (base := w.heap.size) (ok := (fun k_ => (P0_2_ k_ ∨ w.heap.size ≤ k_) ∧ k_ ≠ gb1 ∧ k_ ≠ gb2)) (n := m2.length) (c := c_) (by (with_reducible repeat (first | apply Kd.V_alloc | apply Kd.V_drewN | apply Kd.V_drew)); exact HV.out)).2.2); (case side2 => exact (Kd.V_reads' HV.out).2.1); rintro e w7 ⟨v7, rfl, hR, hb⟩; obtain ⟨B_, b_, ev⟩ := Kd.R_slice hR; subst ev; have n0_ := Aside0.mk (blk_below (g := gb1) (o := .cells #[.int .i64 m0, .int .i64 m1, .slice A_ m2.length c_] 24 (0, 0)) (by (with_reducible repeat (first | refine blk_drewN ?_ _ | refine blk_drew ?_ | refine blk_alloc ?_ _)); exact BK1.out) hb); have n1_ := Aside0.mk (blk_below (g := gb2) (o := .cells #[.int .i64 0, .int .i64 0, .slice none 0 0] 24 (0, 0)) (by (with_reducible repeat (first | refine blk_drewN ?_ _ | refine blk_drew ?_ | refine blk_alloc ?_ _)); exact BK2.out) hb); have n2_ := Aside0.mk (below_step (by repeat (first | (with_reducible first | exact HB.out | apply below_alloc | apply pw_below_drewN | apply below_drew1 | refine below_set ?_ GE1.out | refine below_set ?_ GE2.out) | exact HB.out)) hb); have n3_ := Aside0.mk (Kd.V_mono (ok' := (fun k_ => (P0_2_ k_ ∨ w.heap.size ≤ k_) ∧ k_ ≠ gb1 ∧ k_ ≠ gb2)) (base := w.heap.size) (Kd.R_V (Kd.R_bound hR)) (fun k_ hk_ => ⟨.inr (Nat.le_trans (below_size (by repeat (first | (with_reducible first | exact HB.out | apply below_alloc | apply pw_below_drewN | apply below_drew1 | refine below_set ?_ GE1.out | refine below_set ?_ GE2.out) | exact HB.out))) hk_.2.1), (fun e_ => Nat.lt_irrefl _ (Nat.lt_of_lt_of_le (e_ ▸ blk_lt (show _ = some (.cells #[.int .i64 m0, .int .i64 m1, .slice A_ m2.length c_] 24 (0, 0)) by (with_reducible repeat (first | refine blk_drewN ?_ _ | refine blk_drew ?_ | refine blk_alloc ?_ _)); exact BK1.out)) hk_.2.1)), (fun e_ => Nat.lt_irrefl _ (Nat.lt_of_lt_of_le (e_ ▸ blk_lt (show _ = some (.cells #[.int .i64 0, .int .i64 0, .slice none 0 0] 24 (0, 0)) by (with_reducible repeat (first | refine blk_drewN ?_ _ | refine blk_drew ?_ | refine blk_alloc ?_ _)); exact BK2.out)) hk_.2.1))⟩)); clear HV BK1 BK2 HB hcz1_0 hcz1_1 hcz1_2 hfz1_0 hfz1_1 hfz1_2 hcz2_0 hcz2_1 hcz2_2 hfz2_0 hfz2_1 hfz2_2; have BK1 := n0_; have BK2 := n1_; have HB := n2_; have HV := n3_; clear n0_ n1_ n2_ n3_ hR hb; have hcz1_0 : w7.cell? ⟨gb1, 0, none⟩ = some (.int .i64 m0) := (blk_cell BK1.out 0).trans rfl; have hcz1_1 : w7.cell? ⟨gb1, 1, none⟩ = some (.int .i64 m1) := (blk_cell BK1.out 1).trans rfl; have hcz1_2 : w7.cell? ⟨gb1, 2, none⟩ = some (.slice A_ m2.length c_) := (blk_cell BK1.out 2).trans rfl; have hfz1_0 := blk_frozen BK1.out 0; have hfz1_1 := blk_frozen BK1.out 1; have hfz1_2 := blk_frozen BK1.out 2))
          go_roundg ((Int.tmod a1 4 - (x6 + 1)).toNat + 1)
          case measure => have h1_ := hk'.out; have h2_ := hc'.out; omega
          case rel => exact ⟨wrap64 (x6 + 1), t1, t2, t3, .slice B_ t3.length b_, (by first | rfl | (simp; done)), ⟨by have h1_ := hk'.out; have h2_ := hc'.out; have h3_ : wrap64 (x6 + 1) = x6 + 1 := (by have h4_ : Int.tmod a1 4 < 4 := Int.tmod_lt_of_pos a1 (by omega); unfold wrap64; omega); rw [h3_]; omega⟩, ⟨by have h1_ := hk'.out; have h2_ := hc'.out; have h5_ := hd'.out; have h3_ : wrap64 (x6 + 1) = x6 + 1 := (by have h4_ : Int.tmod a1 4 < 4 := Int.tmod_lt_of_pos a1 (by omega); unfold wrap64; omega); rw [h3_, show (Int.tmod a1 4 - (x6 + 1)).toNat = d from by omega]; exact H'.out⟩, ⟨by (with_reducible repeat (first | apply Kd.V_alloc | apply Kd.V_drewN | apply Kd.V_drew)); exact Kd.V_far (p := ⟨gb1, 2, none⟩) (by (with_reducible repeat (first | apply Kd.V_alloc | apply Kd.V_drewN | apply Kd.V_drew)); exact Kd.V_far (p := ⟨gb1, 1, none⟩) (by (with_reducible repeat (first | apply Kd.V_alloc | apply Kd.V_drewN | apply Kd.V_drew)); exact Kd.V_far (p := ⟨gb1, 0, none⟩) (by (with_reducible repeat (first | apply Kd.V_alloc | apply Kd.V_drewN | apply Kd.V_drew)); exact HV.out) (fun k_ hk_ => hk_.2.1) _) (fun k_ hk_ => hk_.2.1) _) (fun k_ hk_ => hk_.2.1) _⟩, ⟨by (with_reducible repeat (first | refine blk_drewN ?_ _ | refine blk_drew ?_ | refine blk_alloc ?_ _)); refine blk_put (cs := #[.int .i64 t1, .int .i64 t2, (.slice A_ m2.length c_)]) ?_ 2 _ rfl; (with_reducible repeat (first | refine blk_drewN ?_ _ | refine blk_drew ?_ | refine blk_alloc ?_ _)); refine blk_put (cs := #[.int .i64 t1, .int .i64 m1, (.slice A_ m2.length c_)]) ?_ 1 _ rfl; (with_reducible repeat (first | refine blk_drewN ?_ _ | refine blk_drew ?_ | refine blk_alloc ?_ _)); refine blk_put (cs := #[.int .i64 m0, .int .i64 m1, (.slice A_ m2.length c_)]) ?_ 0 _ rfl; (with_reducible repeat (first | refine blk_drewN ?_ _ | refine blk_drew ?_ | refine blk_alloc ?_ _)); exact BK1.out⟩, ⟨by (with_reducible repeat (first | refine blk_drewN ?_ _ | refine blk_drew ?_ | refine blk_alloc ?_ _)); refine blk_far ?_ hnc _; (with_reducible repeat (first | refine blk_drewN ?_ _ | refine blk_drew ?_ | refine blk_alloc ?_ _)); refine blk_far ?_ hnc _; (with_reducible repeat (first | refine blk_drewN ?_ _ | refine blk_drew ?_ | refine blk_alloc ?_ _)); refine blk_far ?_ hnc _; (with_reducible repeat (first | refine blk_drewN ?_ _ | refine blk_drew ?_ | refine blk_alloc ?_ _)); exact BK2.out⟩, ⟨(by repeat (first | (with_reducible first | exact HB.out | apply below_alloc | apply pw_below_drewN | apply below_drew1 | refine below_set ?_ GE1.out | refine below_set ?_ GE2.out) | exact HB.out))⟩⟩
        · have c6b0 : decide (x6 < Int.tmod a1 4) = false := decide_eq_false c6
          have H := HQ.out
          rw [show (Int.tmod a1 4 - x6).toNat = 0 from by omega, layQ] at H
          simp only [Option.some.injEq, Prod.mk.injEq] at H
          obtain ⟨rfl, rfl, rfl⟩ := H
          clear HQ HK c6
          cases ok_ with
          | true =>
            rw [if_pos rfl] at h
            simp only [Option.some.injEq, Prod.mk.injEq] at h
            obtain ⟨rfl, rfl, rfl, rfl⟩ := h
            go_wp2_with (first | (go_at_call 38; (with_reducible refine (chequerref03_Sized.calls m0 m1 true _ HS.out).mono ?_); rintro e w' ⟨rfl, ⟨nd, rfl⟩⟩))
            refine bodyPost_ret (results_ct rfl _ _ gb2 24 #[.int .i64 m0, .int .i64 m1, .slice A_ m2.length c_] (0, 0) _ rfl (by (with_reducible repeat (first | refine blk_drewN ?_ _ | refine blk_drew ?_ | refine blk_alloc ?_ _)); refine blk_put (cs := #[.int .i64 m0, .int .i64 m1, .slice none 0 0]) ?_ 2 _ rfl; (with_reducible repeat (first | refine blk_drewN ?_ _ | refine blk_drew ?_ | refine blk_alloc ?_ _)); refine blk_put (cs := #[.int .i64 m0, .int .i64 0, .slice none 0 0]) ?_ 1 _ rfl; (with_reducible repeat (first | refine blk_drewN ?_ _ | refine blk_drew ?_ | refine blk_alloc ?_ _)); refine blk_put (cs := #[.int .i64 0, .int .i64 0, .slice none 0 0]) ?_ 0 _ rfl; (with_reducible repeat (first | refine blk_drewN ?_ _ | refine blk_drew ?_ | refine blk_alloc ?_ _)); exact BK2.out) Try.underlying24 rfl (by kernel_rfl)) rfl ?_
            exact ⟨_, rfl, (Kd.V_mono (ok := (fun k_ => (P0_2_ k_ ∨ w.heap.size ≤ k_) ∧ k_ ≠ gb1 ∧ k_ ≠ gb2)) (by (with_reducible repeat (first | apply Kd.V_alloc | apply Kd.V_drewN | apply Kd.V_drew)); exact Kd.V_far (p := ⟨gb2, 2, none⟩) (by (with_reducible repeat (first | apply Kd.V_alloc | apply Kd.V_drewN | apply Kd.V_drew)); exact Kd.V_far (p := ⟨gb2, 1, none⟩) (by (with_reducible repeat (first | apply Kd.V_alloc | apply Kd.V_drewN | apply Kd.V_drew)); exact Kd.V_far (p := ⟨gb2, 0, none⟩) (by (with_reducible repeat (first | apply Kd.V_alloc | apply Kd.V_drewN | apply Kd.V_drew)); exact HV.out) (fun k_ hk_ => hk_.2.2) _) (fun k_ hk_ => hk_.2.2) _) (fun k_ hk_ => hk_.2.2) _) (fun k_ hk_ => hk_.1)), (by repeat (first | (with_reducible first | exact HB.out | apply below_alloc | apply pw_below_drewN | apply below_drew1 | refine below_set ?_ GE1.out | refine below_set ?_ GE2.out) | exact HB.out))⟩
          | false =>
            rw [if_neg (by decide)] at h
            simp only [Option.some.injEq, Prod.mk.injEq] at h
            obtain ⟨rfl, rfl, rfl, rfl⟩ := h
            go_wp2_with (first | (go_at_call 38; (with_reducible refine (chequerref03_Sized.calls m0 m1 false _ HS.out).mono ?_); rintro e w' ⟨rfl, ⟨nd, rfl⟩⟩))
            refine bodyPost_ret (results_ct rfl _ _ gb2 24 #[.int .i64 0, .int .i64 0, .slice none 0 0] (0, 0) _ rfl (by (with_reducible repeat (first | refine blk_drewN ?_ _ | refine blk_drew ?_ | refine blk_alloc ?_ _)); refine blk_put (cs := #[.int .i64 0, .int .i64 0, .slice none 0 0]) ?_ 2 _ rfl; (with_reducible repeat (first | refine blk_drewN ?_ _ | refine blk_drew ?_ | refine blk_alloc ?_ _)); refine blk_put (cs := #[.int .i64 0, .int .i64 0, .slice none 0 0]) ?_ 1 _ rfl; (with_reducible repeat (first | refine blk_drewN ?_ _ | refine blk_drew ?_ | refine blk_alloc ?_ _)); refine blk_put (cs := #[.int .i64 0, .int .i64 0, .slice none 0 0]) ?_ 0 _ rfl; (with_reducible repeat (first | refine blk_drewN ?_ _ | refine blk_drew ?_ | refine blk_alloc ?_ _)); exact BK2.out) Try.underlying24 rfl (by kernel_rfl)) rfl ?_
            exact ⟨_, rfl, Kd.V_nil _ _ _ _ _, (by repeat (first | (with_reducible first | exact HB.out | apply below_alloc | apply pw_below_drewN | apply below_drew1 | refine below_set ?_ GE1.out | refine below_set ?_ GE2.out) | exact HB.out))⟩
    · rw [if_neg c3] at hM
      have d2 : decide (3 < a1) = false := decide_eq_false c3
      clear c3
      simp only [Option.some.injEq, Prod.mk.injEq] at hM
      obtain ⟨rfl, rfl, rfl⟩ := hM
      have HVI : Aside0 (Kd.V (Kd.int .u64) 41 w w.heap.size (fun k_ => P0_2_ k_ ∧ k_ < w.heap.size) (.slice A0_2 l0_2.length c0_2) l0_2) := HS0
      go_enter Try.func14, Try.ntmps14
      go_wp2_with (first | ((with_reducible refine gate_dst (N := 2) rfl ?_); refine box_event ?hg (N := 2) ?hd (cs := #[.int .i64 a0_0, .int .i64 a0_1, .slice A0_2 l0_2.length c0_2]) (t := 24) ?hr ?_; (case hd => rfl); (case hg => rfl); (case hr => first | (go_simp; done) | (go_simp; rfl)); intro gb1 hg w2 hbox hb; have n0_ := Aside0.mk (below_step (by repeat (first | (with_reducible first | exact HB.out | apply below_alloc | apply pw_below_drewN | apply below_drew1) | exact HB.out)) hb); have n1_ := Aside0.mk (hbox); have n2_ := Aside0.mk ((by rw [hg]; exact (below_size (by repeat (first | (with_reducible first | exact HB.out | apply below_alloc | apply pw_below_drewN | apply below_drew1) | exact HB.out))) : w.heap.size ≤ gb1)); clear HB; have HB := n0_; have BK1 := n1_; have GE1 := n2_; clear n0_ n1_ n2_; clear hb hbox hg) | ((with_reducible refine gate_dst (N := 4) rfl ?_); refine box_event ?hg (N := 4) ?hd (cs := #[.int .i64 0, .int .i64 0, .slice none 0 0]) (t := 24) ?hr ?_; (case hd => rfl); (case hg => rfl); (case hr => first | (go_simp; done) | (go_simp; rfl)); intro gb2 hg w3 hbox hb; have n0_ := Aside0.mk (blk_below (g := gb1) (o := .cells #[.int .i64 a0_0, .int .i64 a0_1, .slice A0_2 l0_2.length c0_2] 24 (0, 0)) (by (with_reducible repeat (first | refine blk_drewN ?_ _ | refine blk_drew ?_ | refine blk_alloc ?_ _)); exact BK1.out) hb); have n1_ := Aside0.mk (below_step (by repeat (first | (with_reducible first | exact HB.out | apply below_alloc | apply pw_below_drewN | apply below_drew1) | exact HB.out)) hb); have n2_ := Aside0.mk (hbox); have n3_ := Aside0.mk ((by rw [hg]; exact (below_size (by repeat (first | (with_reducible first | exact HB.out | apply below_alloc | apply pw_below_drewN | apply below_drew1) | exact HB.out))) : w.heap.size ≤ gb2)); have n4_ := Aside0.mk ((by rw [hg]; have h_ := blk_lt BK1.out; (first | exact Nat.ne_of_lt h_ | (simp at h_ ⊢; omega))) : gb1 ≠ gb2); clear HB BK1; have BK1 := n0_; have HB := n1_; have BK2 := n2_; have GE2 := n3_; have NB := n4_; clear n0_ n1_ n2_ n3_ n4_; clear hb hbox hg))
      have HV : Aside0 (0 = 0) := ⟨rfl⟩
      go_loopg [6] ((Int.tmod a1 4).toNat + 1) (fun kq v6 w' => ∃ (x6 m0 m1 : Int) (m2 : List Int) (u : Value), v6 = .int .i64 x6 ∧ Aside0 (0 ≤ x6 ∧ x6 ≤ Int.tmod a1 4 ∧ kq = (Int.tmod a1 4 - x6).toNat + 1) ∧ Aside0 (layQ k (Int.tmod a1 4 - x6).toNat m0 m1 m2 = some (s0, s1, s2)) ∧ Aside0 (Kd.V (Kd.int .u64) 41 w' w.heap.size (fun k_ => (P0_2_ k_ ∨ w.heap.size ≤ k_) ∧ k_ ≠ gb1 ∧ k_ ≠ gb2) u m2) ∧ Aside0 (w'.heap[gb1]? = some (.cells #[.int .i64 m0, .int .i64 m1, u] 24 (0, 0))) ∧ Aside0 (w'.heap[gb2]? = some (.cells #[.int .i64 0, .int .i64 0, .slice none 0 0] 24 (0, 0))) ∧ Aside0 (Below w.heap.size w w'))
      case atStart => exact ⟨0, a0_0, a0_1, l0_2, .slice A0_2 l0_2.length c0_2, rfl, ⟨by have h1_ : 0 ≤ Int.tmod a1 4 := Int.tmod_nonneg 4 hg'.out.1; omega⟩, ⟨by rw [Int.sub_zero]; exact HQ.out⟩, ⟨Kd.V_mono (Kd.V_below HS0.out (by repeat (first | (with_reducible first | exact HB.out | apply below_alloc | apply pw_below_drewN | apply below_drew1 | refine below_set ?_ GE1.out | refine below_set ?_ GE2.out) | exact HB.out))) (fun k_ hk_ => ⟨.inl hk_.1, (by have h1_ := hk_.2; have h2_ := GE1.out; omega), (by have h1_ := hk_.2; have h2_ := GE2.out; omega)⟩)⟩, ⟨by (with_reducible repeat (first | refine blk_drewN ?_ _ | refine blk_drew ?_ | refine blk_alloc ?_ _)); exact BK1.out⟩, ⟨by (with_reducible repeat (first | refine blk_drewN ?_ _ | refine blk_drew ?_ | refine blk_alloc ?_ _)); exact BK2.out⟩, ⟨(by repeat (first | (with_reducible first | exact HB.out | apply below_alloc | apply pw_below_drewN | apply below_drew1 | refine below_set ?_ GE1.out | refine below_set ?_ GE2.out) | exact HB.out))⟩⟩
      case round =>
        clear HV HB BK1 BK2
        obtain ⟨x6, m0, m1, m2, u, rfl, HK, HQ, HV, BK1, BK2, HB⟩ := hrel
        obtain ⟨A_, c_, eu⟩ := Kd.V_slice HV.out
        subst eu
        have hcz1_0 : wr.cell? ⟨gb1, 0, none⟩ = some (.int .i64 m0) := (blk_cell BK1.out 0).trans rfl
        have hcz1_1 : wr.cell? ⟨gb1, 1, none⟩ = some (.int .i64 m1) := (blk_cell BK1.out 1).trans rfl
        have hcz1_2 : wr.cell? ⟨gb1, 2, none⟩ = some (.slice A_ m2.length c_) := (blk_cell BK1.out 2).trans rfl
        have hfz1_0 := blk_frozen BK1.out 0
        have hfz1_1 := blk_frozen BK1.out 1
        have hfz1_2 := blk_frozen BK1.out 2
        have hcz2_0 : wr.cell? ⟨gb2, 0, none⟩ = some (.int .i64 0) := (blk_cell BK2.out 0).trans rfl
        have hcz2_1 : wr.cell? ⟨gb2, 1, none⟩ = some (.int .i64 0) := (blk_cell BK2.out 1).trans rfl
        have hcz2_2 : wr.cell? ⟨gb2, 2, none⟩ = some (.slice none 0 0) := (blk_cell BK2.out 2).trans rfl
        have hfz2_0 := blk_frozen BK2.out 0
        have hfz2_1 := blk_frozen BK2.out 1
        have hfz2_2 := blk_frozen BK2.out 2
        have hnb := NB.out
        have hnc := Ne.symm NB.out
        by_cases c6 : x6 < Int.tmod a1 4
        · have c6b0 : decide (x6 < Int.tmod a1 4) = true := decide_eq_true c6
          have hn : ∃ d, (Int.tmod a1 4 - x6).toNat = d + 1 := ⟨(Int.tmod a1 4 - x6).toNat - 1, by omega⟩
          obtain ⟨d, hd⟩ := hn
          have H := HQ.out
          rw [hd] at H
          rw [layQ] at H
          obtain ⟨⟨t1, t2, t3⟩, A70, H⟩ := Option.bind_eq_some_iff.mp H
          have A7 := Aside0.mk A70
          have H' := Aside0.mk H
          have hd' := Aside0.mk hd
          have hk' := Aside0.mk HK.out
          have hc' := Aside0.mk c6
          clear HQ H A70 hd c6 HK
          go_wp2_with (first | (go_at_call 37; (with_reducible refine (chequerref04_quarter.calls k m0 m1 _ _ m2 t1 t2 t3 _ ?side1 ?side2 A7.out).mono ?_); (case side1 => exact (Kd.V_reads' (e := 41) (base := w.heap.size) (ok := (fun k_ => (P0_2_ k_ ∨ w.heap.size ≤ k_) ∧ k_ ≠ gb1 ∧ k_ ≠ gb2)) (n := m2.length) (c := c_) (by (with_reducible repeat (first | apply Kd.V_alloc | apply Kd.V_drewN | apply Kd.V_drew)); exact HV.out)).2.2); (case side2 => exact (Kd.V_reads' HV.out).2.1); rintro e w7 ⟨v7, rfl, hR, hb⟩; obtain ⟨B_, b_, ev⟩ := Kd.R_slice hR; subst ev; have n0_ := Aside0.mk (blk_below (g := gb1) (o := .cells #[.int .i64 m0, .int .i64 m1, .slice A_ m2.length c_] 24 (0, 0)) (by (with_reducible repeat (first | refine blk_drewN ?_ _ | refine blk_drew ?_ | refine blk_alloc ?_ _)); exact BK1.out) hb); have n1_ := Aside0.mk (blk_below (g := gb2) (o := .cells #[.int .i64 0, .int .i64 0, .slice none 0 0] 24 (0, 0)) (by (with_reducible repeat (first | refine blk_drewN ?_ _ | refine blk_drew ?_ | refine blk_alloc ?_ _)); exact BK2.out) hb); have n2_ := Aside0.mk (below_step (by repeat (first | (with_reducible first | exact HB.out | apply below_alloc | apply pw_below_drewN | apply below_drew1 | refine below_set ?_ GE1.out | refine below_set ?_ GE2.out) | exact HB.out)) hb); have n3_ := Aside0.mk (Kd.V_mono (ok' := (fun k_ => (P0_2_ k_ ∨ w.heap.size ≤ k_) ∧ k_ ≠ gb1 ∧ k_ ≠ gb2)) (base := w.heap.size) (Kd.R_V (Kd.R_bound hR)) (fun k_ hk_ => ⟨.inr (Nat.le_trans (below_size (by repeat (first | (with_reducible first | exact HB.out | apply below_alloc | apply pw_below_drewN | apply below_drew1 | refine below_set ?_ GE1.out | refine below_set ?_ GE2.out) | exact HB.out))) hk_.2.1), (fun e_ => Nat.lt_irrefl _ (Nat.lt_of_lt_of_le (e_ ▸ blk_lt (show _ = some (.cells #[.int .i64 m0, .int .i64 m1, .slice A_ m2.length c_] 24 (0, 0)) by (with_reducible repeat (first | refine blk_drewN ?_ _ | refine blk_drew ?_ | refine blk_alloc ?_ _)); exact BK1.out)) hk_.2.1)), (fun e_ => Nat.lt_irrefl _ (Nat.lt_of_lt_of_le (e_ ▸ blk_lt (show _ = some (.cells #[.int .i64 0, .int .i64 0, .slice none 0 0] 24 (0, 0)) by (with_reducible repeat (first | refine blk_drewN ?_ _ | refine blk_drew ?_ | refine blk_alloc ?_ _)); exact BK2.out)) hk_.2.1))⟩)); clear HV BK1 BK2 HB hcz1_0 hcz1_1 hcz1_2 hfz1_0 hfz1_1 hfz1_2 hcz2_0 hcz2_1 hcz2_2 hfz2_0 hfz2_1 hfz2_2; have BK1 := n0_; have BK2 := n1_; have HB := n2_; have HV := n3_; clear n0_ n1_ n2_ n3_ hR hb; have hcz1_0 : w7.cell? ⟨gb1, 0, none⟩ = some (.int .i64 m0) := (blk_cell BK1.out 0).trans rfl; have hcz1_1 : w7.cell? ⟨gb1, 1, none⟩ = some (.int .i64 m1) := (blk_cell BK1.out 1).trans rfl; have hcz1_2 : w7.cell? ⟨gb1, 2, none⟩ = some (.slice A_ m2.length c_) := (blk_cell BK1.out 2).trans rfl; have hfz1_0 := blk_frozen BK1.out 0; have hfz1_1 := blk_frozen BK1.out 1; have hfz1_2 := blk_frozen BK1.out 2))
          go_roundg ((Int.tmod a1 4 - (x6 + 1)).toNat + 1)
          case measure => have h1_ := hk'.out; have h2_ := hc'.out; omega
          case rel => exact ⟨wrap64 (x6 + 1), t1, t2, t3, .slice B_ t3.length b_, (by first | rfl | (simp; done)), ⟨by have h1_ := hk'.out; have h2_ := hc'.out; have h3_ : wrap64 (x6 + 1) = x6 + 1 := (by have h4_ : Int.tmod a1 4 < 4 := Int.tmod_lt_of_pos a1 (by omega); unfold wrap64; omega); rw [h3_]; omega⟩, ⟨by have h1_ := hk'.out; have h2_ := hc'.out; have h5_ := hd'.out; have h3_ : wrap64 (x6 + 1) = x6 + 1 := (by have h4_ : Int.tmod a1 4 < 4 := Int.tmod_lt_of_pos a1 (by omega); unfold wrap64; omega); rw [h3_, show (Int.tmod a1 4 - (x6 + 1)).toNat = d from by omega]; exact H'.out⟩, ⟨by (with_reducible repeat (first | apply Kd.V_alloc | apply Kd.V_drewN | apply Kd.V_drew)); exact Kd.V_far (p := ⟨gb1, 2, none⟩) (by (with_reducible repeat (first | apply Kd.V_alloc | apply Kd.V_drewN | apply Kd.V_drew)); exact Kd.V_far (p := ⟨gb1, 1, none⟩) (by (with_reducible repeat (first | apply Kd.V_alloc | apply Kd.V_drewN | apply Kd.V_drew)); exact Kd.V_far (p := ⟨gb1, 0, none⟩) (by (with_reducible repeat (first | apply Kd.V_alloc | apply Kd.V_drewN | apply Kd.V_drew)); exact HV.out) (fun k_ hk_ => hk_.2.1) _) (fun k_ hk_ => hk_.2.1) _) (fun k_ hk_ => hk_.2.1) _⟩, ⟨by (with_reducible repeat (first | refine blk_drewN ?_ _ | refine blk_drew ?_ | refine blk_alloc ?_ _)); refine blk_put (cs := #[.int .i64 t1, .int .i64 t2, (.slice A_ m2.length c_)]) ?_ 2 _ rfl; (with_reducible repeat (first | refine blk_drewN ?_ _ | refine blk_drew ?_ | refine blk_alloc ?_ _)); refine blk_put (cs := #[.int .i64 t1, .int .i64 m1, (.slice A_ m2.length c_)]) ?_ 1 _ rfl; (with_reducible repeat (first | refine blk_drewN ?_ _ | refine blk_drew ?_ | refine blk_alloc ?_ _)); refine blk_put (cs := #[.int .i64 m0, .int .i64 m1, (.slice A_ m2.length c_)]) ?_ 0 _ rfl; (with_reducible repeat (first | refine blk_drewN ?_ _ | refine blk_drew ?_ | refine blk_alloc ?_ _)); exact BK1.out⟩, ⟨by (with_reducible repeat (first | refine blk_drewN ?_ _ | refine blk_drew ?_ | refine blk_alloc ?_ _)); refine blk_far ?_ hnc _; (with_reducible repeat (first | refine blk_drewN ?_ _ | refine blk_drew ?_ | refine blk_alloc ?_ _)); refine blk_far ?_ hnc _; (with_reducible repeat (first | refine blk_drewN ?_ _ | refine blk_drew ?_ | refine blk_alloc ?_ _)); refine blk_far ?_ hnc _; (with_reducible repeat (first | refine blk_drewN ?_ _ | refine blk_drew ?_ | refine blk_alloc ?_ _)); exact BK2.out⟩, ⟨(by repeat (first | (with_reducible first | exact HB.out | apply below_alloc | apply pw_below_drewN | apply below_drew1 | refine below_set ?_ GE1.out | refine below_set ?_ GE2.out) | exact HB.out))⟩⟩
        · have c6b0 : decide (x6 < Int.tmod a1 4) = false := decide_eq_false c6
          have H := HQ.out
          rw [show (Int.tmod a1 4 - x6).toNat = 0 from by omega, layQ] at H
          simp only [Option.some.injEq, Prod.mk.injEq] at H
          obtain ⟨rfl, rfl, rfl⟩ := H
          clear HQ HK c6
          cases ok_ with
          | true =>
            rw [if_pos rfl] at h
            simp only [Option.some.injEq, Prod.mk.injEq] at h
            obtain ⟨rfl, rfl, rfl, rfl⟩ := h
            go_wp2_with (first | (go_at_call 38; (with_reducible refine (chequerref03_Sized.calls m0 m1 true _ HS.out).mono ?_); rintro e w' ⟨rfl, ⟨nd, rfl⟩⟩))
            refine bodyPost_ret (results_ct rfl _ _ gb2 24 #[.int .i64 m0, .int .i64 m1, .slice A_ m2.length c_] (0, 0) _ rfl (by (with_reducible repeat (first | refine blk_drewN ?_ _ | refine blk_drew ?_ | refine blk_alloc ?_ _)); refine blk_put (cs := #[.int .i64 m0, .int .i64 m1, .slice none 0 0]) ?_ 2 _ rfl; (with_reducible repeat (first | refine blk_drewN ?_ _ | refine blk_drew ?_ | refine blk_alloc ?_ _)); refine blk_put (cs := #[.int .i64 m0, .int .i64 0, .slice none 0 0]) ?_ 1 _ rfl; (with_reducible repeat (first | refine blk_drewN ?_ _ | refine blk_drew ?_ | refine blk_alloc ?_ _)); refine blk_put (cs := #[.int .i64 0, .int .i64 0, .slice none 0 0]) ?_ 0 _ rfl; (with_reducible repeat (first | refine blk_drewN ?_ _ | refine blk_drew ?_ | refine blk_alloc ?_ _)); exact BK2.out) Try.underlying24 rfl (by kernel_rfl)) rfl ?_
            exact ⟨_, rfl, (Kd.V_mono (ok := (fun k_ => (P0_2_ k_ ∨ w.heap.size ≤ k_) ∧ k_ ≠ gb1 ∧ k_ ≠ gb2)) (by (with_reducible repeat (first | apply Kd.V_alloc | apply Kd.V_drewN | apply Kd.V_drew)); exact Kd.V_far (p := ⟨gb2, 2, none⟩) (by (with_reducible repeat (first | apply Kd.V_alloc | apply Kd.V_drewN | apply Kd.V_drew)); exact Kd.V_far (p := ⟨gb2, 1, none⟩) (by (with_reducible repeat (first | apply Kd.V_alloc | apply Kd.V_drewN | apply Kd.V_drew)); exact Kd.V_far (p := ⟨gb2, 0, none⟩) (by (with_reducible repeat (first | apply Kd.V_alloc | apply Kd.V_drewN | apply Kd.V_drew)); exact HV.out) (fun k_ hk_ => hk_.2.2) _) (fun k_ hk_ => hk_.2.2) _) (fun k_ hk_ => hk_.2.2) _) (fun k_ hk_ => hk_.1)), (by repeat (first | (with_reducible first | exact HB.out | apply below_alloc | apply pw_below_drewN | apply below_drew1 | refine below_set ?_ GE1.out | refine below_set ?_ GE2.out) | exact HB.out))⟩
          | false =>
            rw [if_neg (by decide)] at h
            simp only [Option.some.injEq, Prod.mk.injEq] at h
            obtain ⟨rfl, rfl, rfl, rfl⟩ := h
            go_wp2_with (first | (go_at_call 38; (with_reducible refine (chequerref03_Sized.calls m0 m1 false _ HS.out).mono ?_); rintro e w' ⟨rfl, ⟨nd, rfl⟩⟩))
            refine bodyPost_ret (results_ct rfl _ _ gb2 24 #[.int .i64 0, .int .i64 0, .slice none 0 0] (0, 0) _ rfl (by (with_reducible repeat (first | refine blk_drewN ?_ _ | refine blk_drew ?_ | refine blk_alloc ?_ _)); refine blk_put (cs := #[.int .i64 0, .int .i64 0, .slice none 0 0]) ?_ 2 _ rfl; (with_reducible repeat (first | refine blk_drewN ?_ _ | refine blk_drew ?_ | refine blk_alloc ?_ _)); refine blk_put (cs := #[.int .i64 0, .int .i64 0, .slice none 0 0]) ?_ 1 _ rfl; (with_reducible repeat (first | refine blk_drewN ?_ _ | refine blk_drew ?_ | refine blk_alloc ?_ _)); refine blk_put (cs := #[.int .i64 0, .int .i64 0, .slice none 0 0]) ?_ 0 _ rfl; (with_reducible repeat (first | refine blk_drewN ?_ _ | refine blk_drew ?_ | refine blk_alloc ?_ _)); exact BK2.out) Try.underlying24 rfl (by kernel_rfl)) rfl ?_
            exact ⟨_, rfl, Kd.V_nil _ _ _ _ _, (by repeat (first | (with_reducible first | exact HB.out | apply below_alloc | apply pw_below_drewN | apply below_drew1 | refine below_set ?_ GE1.out | refine below_set ?_ GE2.out) | exact HB.out))⟩
  · rw [if_neg hg] at h
    simp only [Option.some.injEq, Prod.mk.injEq] at h
    obtain ⟨rfl, rfl, rfl, rfl⟩ := h
    by_cases c0 : a1 < 0
    · have d0 : decide (a1 < 0) = true := decide_eq_true c0
      go_enter Try.func14, Try.ntmps14
      go_wp2_with (first | ((with_reducible refine gate_dst (N := 2) rfl ?_); refine box_event ?hg (N := 2) ?hd (cs := #[.int .i64 a0_0, .int .i64 a0_1, .slice A0_2 l0_2.length c0_2]) (t := 24) ?hr ?_; (case hd => rfl); (case hg => rfl); (case hr => first | (go_simp; done) | (go_simp; rfl)); intro gb1 hg w2 hbox hb; have n0_ := Aside0.mk (below_step (by repeat (first | (with_reducible first | exact HB.out | apply below_alloc | apply pw_below_drewN | apply below_drew1) | exact HB.out)) hb); have n1_ := Aside0.mk (hbox); have n2_ := Aside0.mk ((by rw [hg]; exact (below_size (by repeat (first | (with_reducible first | exact HB.out | apply below_alloc | apply pw_below_drewN | apply below_drew1) | exact HB.out))) : w.heap.size ≤ gb1)); clear HB; have HB := n0_; have BK1 := n1_; have GE1 := n2_; clear n0_ n1_ n2_; clear hb hbox hg) | ((with_reducible refine gate_dst (N := 4) rfl ?_); refine box_event ?hg (N := 4) ?hd (cs := #[.int .i64 0, .int .i64 0, .slice none 0 0]) (t := 24) ?hr ?_; (case hd => rfl); (case hg => rfl); (case hr => first | (go_simp; done) | (go_simp; rfl)); intro gb2 hg w3 hbox hb; have n0_ := Aside0.mk (blk_below (g := gb1) (o := .cells #[.int .i64 a0_0, .int .i64 a0_1, .slice A0_2 l0_2.length c0_2] 24 (0, 0)) (by (with_reducible repeat (first | refine blk_drewN ?_ _ | refine blk_drew ?_ | refine blk_alloc ?_ _)); exact BK1.out) hb); have n1_ := Aside0.mk (below_step (by repeat (first | (with_reducible first | exact HB.out | apply below_alloc | apply pw_below_drewN | apply below_drew1) | exact HB.out)) hb); have n2_ := Aside0.mk (hbox); have n3_ := Aside0.mk ((by rw [hg]; exact (below_size (by repeat (first | (with_reducible first | exact HB.out | apply below_alloc | apply pw_below_drewN | apply below_drew1) | exact HB.out))) : w.heap.size ≤ gb2)); have n4_ := Aside0.mk ((by rw [hg]; have h_ := blk_lt BK1.out; (first | exact Nat.ne_of_lt h_ | (simp at h_ ⊢; omega))) : gb1 ≠ gb2); clear HB BK1; have BK1 := n0_; have HB := n1_; have BK2 := n2_; have GE2 := n3_; have NB := n4_; clear n0_ n1_ n2_ n3_ n4_; clear hb hbox hg; have hcz2_0 : w3.cell? ⟨gb2, 0, none⟩ = some (.int .i64 0) := (blk_cell BK2.out 0).trans rfl; have hcz2_1 : w3.cell? ⟨gb2, 1, none⟩ = some (.int .i64 0) := (blk_cell BK2.out 1).trans rfl; have hcz2_2 : w3.cell? ⟨gb2, 2, none⟩ = some (.slice none 0 0) := (blk_cell BK2.out 2).trans rfl; have hfz2_0 := blk_frozen BK2.out 0; have hfz2_1 := blk_frozen BK2.out 1; have hfz2_2 := blk_frozen BK2.out 2))
      refine bodyPost_ret (results_ct rfl _ _ gb2 24 #[.int .i64 0, .int .i64 0, .slice none 0 0] (0, 0) _ rfl (by (with_reducible repeat (first | refine blk_drewN ?_ _ | refine blk_drew ?_ | refine blk_alloc ?_ _)); refine blk_put (cs := #[.int .i64 0, .int .i64 0, .slice none 0 0]) ?_ 2 _ rfl; (with_reducible repeat (first | refine blk_drewN ?_ _ | refine blk_drew ?_ | refine blk_alloc ?_ _)); refine blk_put (cs := #[.int .i64 0, .int .i64 0, .slice none 0 0]) ?_ 1 _ rfl; (with_reducible repeat (first | refine blk_drewN ?_ _ | refine blk_drew ?_ | refine blk_alloc ?_ _)); refine blk_put (cs := #[.int .i64 0, .int .i64 0, .slice none 0 0]) ?_ 0 _ rfl; (with_reducible repeat (first | refine blk_drewN ?_ _ | refine blk_drew ?_ | refine blk_alloc ?_ _)); exact BK2.out) Try.underlying24 rfl (by kernel_rfl)) rfl ?_
      exact ⟨_, rfl, Kd.V_nil _ _ _ _ _, (by repeat (first | (with_reducible first | exact HB.out | apply below_alloc | apply pw_below_drewN | apply below_drew1 | refine below_set ?_ GE1.out | refine below_set ?_ GE2.out) | exact HB.out))⟩
    · have d0 : decide (a1 < 0) = false := decide_eq_false c0
      have d1 : decide (7 < a1) = true := decide_eq_true (by omega)
      go_enter Try.func14, Try.ntmps14
      go_wp2_with (first | ((with_reducible refine gate_dst (N := 2) rfl ?_); refine box_event ?hg (N := 2) ?hd (cs := #[.int .i64 a0_0, .int .i64 a0_1, .slice A0_2 l0_2.length c0_2]) (t := 24) ?hr ?_; (case hd => rfl); (case hg => rfl); (case hr => first | (go_simp; done) | (go_simp; rfl)); intro gb1 hg w2 hbox hb; have n0_ := Aside0.mk (below_step (by repeat (first | (with_reducible first | exact HB.out | apply below_alloc | apply pw_below_drewN | apply below_drew1) | exact HB.out)) hb); have n1_ := Aside0.mk (hbox); have n2_ := Aside0.mk ((by rw [hg]; exact (below_size (by repeat (first | (with_reducible first | exact HB.out | apply below_alloc | apply pw_below_drewN | apply below_drew1) | exact HB.out))) : w.heap.size ≤ gb1)); clear HB; have HB := n0_; have BK1 := n1_; have GE1 := n2_; clear n0_ n1_ n2_; clear hb hbox hg) | ((with_reducible refine gate_dst (N := 4) rfl ?_); refine box_event ?hg (N := 4) ?hd (cs := #[.int .i64 0, .int .i64 0, .slice none 0 0]) (t := 24) ?hr ?_; (case hd => rfl); (case hg => rfl); (case hr => first | (go_simp; done) | (go_simp; rfl)); intro gb2 hg w3 hbox hb; have n0_ := Aside0.mk (blk_below (g := gb1) (o := .cells #[.int .i64 a0_0, .int .i64 a0_1, .slice A0_2 l0_2.length c0_2] 24 (0, 0)) (by (with_reducible repeat (first | refine blk_drewN ?_ _ | refine blk_drew ?_ | refine blk_alloc ?_ _)); exact BK1.out) hb); have n1_ := Aside0.mk (below_step (by repeat (first | (with_reducible first | exact HB.out | apply below_alloc | apply pw_below_drewN | apply below_drew1) | exact HB.out)) hb); have n2_ := Aside0.mk (hbox); have n3_ := Aside0.mk ((by rw [hg]; exact (below_size (by repeat (first | (with_reducible first | exact HB.out | apply below_alloc | apply pw_below_drewN | apply below_drew1) | exact HB.out))) : w.heap.size ≤ gb2)); have n4_ := Aside0.mk ((by rw [hg]; have h_ := blk_lt BK1.out; (first | exact Nat.ne_of_lt h_ | (simp at h_ ⊢; omega))) : gb1 ≠ gb2); clear HB BK1; have BK1 := n0_; have HB := n1_; have BK2 := n2_; have GE2 := n3_; have NB := n4_; clear n0_ n1_ n2_ n3_ n4_; clear hb hbox hg; have hcz2_0 : w3.cell? ⟨gb2, 0, none⟩ = some (.int .i64 0) := (blk_cell BK2.out 0).trans rfl; have hcz2_1 : w3.cell? ⟨gb2, 1, none⟩ = some (.int .i64 0) := (blk_cell BK2.out 1).trans rfl; have hcz2_2 : w3.cell? ⟨gb2, 2, none⟩ = some (.slice none 0 0) := (blk_cell BK2.out 2).trans rfl; have hfz2_0 := blk_frozen BK2.out 0; have hfz2_1 := blk_frozen BK2.out 1; have hfz2_2 := blk_frozen BK2.out 2))
      refine bodyPost_ret (results_ct rfl _ _ gb2 24 #[.int .i64 0, .int .i64 0, .slice none 0 0] (0, 0) _ rfl (by (with_reducible repeat (first | refine blk_drewN ?_ _ | refine blk_drew ?_ | refine blk_alloc ?_ _)); refine blk_put (cs := #[.int .i64 0, .int .i64 0, .slice none 0 0]) ?_ 2 _ rfl; (with_reducible repeat (first | refine blk_drewN ?_ _ | refine blk_drew ?_ | refine blk_alloc ?_ _)); refine blk_put (cs := #[.int .i64 0, .int .i64 0, .slice none 0 0]) ?_ 1 _ rfl; (with_reducible repeat (first | refine blk_drewN ?_ _ | refine blk_drew ?_ | refine blk_alloc ?_ _)); refine blk_put (cs := #[.int .i64 0, .int .i64 0, .slice none 0 0]) ?_ 0 _ rfl; (with_reducible repeat (first | refine blk_drewN ?_ _ | refine blk_drew ?_ | refine blk_alloc ?_ _)); exact BK2.out) Try.underlying24 rfl (by kernel_rfl)) rfl ?_
      exact ⟨_, rfl, Kd.V_nil _ _ _ _ _, (by repeat (first | (with_reducible first | exact HB.out | apply below_alloc | apply pw_below_drewN | apply below_drew1 | refine below_set ?_ GE1.out | refine below_set ?_ GE2.out) | exact HB.out))⟩
end Go.Proofs.Ytehjnekljodmgaa.Q
