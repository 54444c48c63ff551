/- What a head's reader has read. -/
import Derived.Test.YtmimfljiighbaaaQ0
import Derived.Below
import Derived.Deep.Draws
import Derived.Deep.AppendLies
import Derived.Maps.AppendAt
import Derived.OwnWalk
import Derived.Laws.BytesArg
import Derived.Laws.MakeOwn
import Derived.Laws.OwnMore
import Derived.Deep.OwnRows
import Derived.Tactics
import Derived.Lib.ConvBytes
import Derived.Laws.Slices
import Derived.WalkKit
import Derived.KernelRfl
import Derived.RowKit3
import Derived.Deep.LoopGhost
import Derived.Deep.QuietTactic
import Derived.BigQuiet
import Derived.WideLaws
import Derived.Deep.DeepCutAuto
import Derived.Deep.CutBlock
import Derived.Deep.RegionHeld3
import Derived.Laws.Rows
import Derived.Lib.AppendStr
import Derived.ArgAppend
import Derived.Laws.IdiomCopy
import Derived.OrdersHeld
import Derived.Laws.BitsLemmas
import Derived.RowKit
import Derived.Test.YtmimfljiighbaaaMore
import Derived.Test.YtmimfljiighbaaaPeel
import Derived.Test.YtmimfljiighbaaaTok
import Derived.Test.YtmimfljiighbaaaHead
import Derived.Scope
import Derived.Test.YtmimfljiighbaaaWWords
import Derived.Test.YtmimfljiighbaaaWLast
import Derived.Test.YtmimfljiighbaaaWTab
import Derived.Test.YtmimfljiighbaaaWFour
import Derived.Test.YtmimfljiighbaaaWQPut
import Derived.Test.YtmimfljiighbaaaWApart
import Derived.Test.YtmimfljiighbaaaWArr
import Derived.Test.YtmimfljiighbaaaWZeros
import Derived.Test.YtmimfljiighbaaaWFoot
import Derived.Test.YtmimfljiighbaaaWKept
import Derived.Test.YtmimfljiighbaaaWShare
import Derived.Test.YtmimfljiighbaaaWN
import Derived.Test.YtmimfljiighbaaaWFootNe
import Derived.Test.YtmimfljiighbaaaWAt
import Derived.Test.YtmimfljiighbaaaWEqStruct
import Derived.Test.YtmimfljiighbaaaWRepsOne
import Derived.Test.YtmimfljiighbaaaWInv
import Derived.Test.YtmimfljiighbaaaWInvWords
import Derived.Test.YtmimfljiighbaaaWGuard
import Derived.Test.YtmimfljiighbaaaWNEv
import Derived.Test.YtmimfljiighbaaaWMore
import Derived.Deep.RegionWith
import Derived.StillTailTactics
namespace Go.Proofs.Ytmimfljiighbaaa.Q
open Go.RowKit Go.Proofs.YtmimfljiighbaaaW.PrintWords Go.Proofs.YtmimfljiighbaaaW.PrintLast Go.Proofs.YtmimfljiighbaaaW.PrintMore
set_option linter.unusedVariables false
set_option linter.unusedSimpArgs false
def head_Reader_Head.f (f0 : Int) (f1 : Int) (f2 : Int) (f3 : Int) (f4 : Int) (f5 : Int) (f6 : Int) (f7 : Int) (f8 : Int) (f9 : Bool) (f10 : Int) (f11 : Int) (f12 : Int) (f13 : Bool) (f14 : Int) (f15 : Int) (f16 : Int) (f17 : Int) : Option (Int × Int × Int × Int × Int × Int × Int × Int × Int × Int × Int × Int × Int × Int × Bool × Int × Int × Int × Bool × Int × Int × Int × Int) := if f17 = 0 then some (f0, f1, f2, f3, 0, f0, f1, f2, f3, f4, f5, f6, f7, f8, f9, f10, f11, f12, f13, f14, f15, f16, f17) else some (0, 0, 0, 0, f17, f0, f1, f2, f3, f4, f5, f6, f7, f8, f9, f10, f11, f12, f13, f14, f15, f16, f17)
set_option maxRecDepth 100000 in
set_option maxHeartbeats 4000000 in
theorem head_Reader_Head.calls (g : Nat) (f0 : Int) (f1 : Int) (f2 : Int) (f3 : Int) (f4 : Int) (f5 : Int) (f6 : Int) (f7 : Int) (f8 : Int) (f9 : Bool) (f10 : Int) (f11 : Int) (f12 : Int) (f13 : Bool) (f14 : Int) (f15 : Int) (f16 : Int) (f17 : Int) (r0 : Int) (r1 : Int) (r2 : Int) (r3 : Int) (r4 : Int) (r5 : Int) (r6 : Int) (r7 : Int) (r8 : Int) (r9 : Int) (r10 : Int) (r11 : Int) (r12 : Int) (r13 : Int) (r14 : Bool) (r15 : Int) (r16 : Int) (r17 : Int) (r18 : Bool) (r19 : Int) (r20 : Int) (r21 : Int) (r22 : Int) (w0 w : World) (hI : IsS77 w0 w g f0 f1 f2 f3 f4 f5 f6 f7 f8 f9 f10 f11 f12 f13 f14 f15 f16 f17) (hB : Below w0.heap.size w0 w) (h : head_Reader_Head.f f0 f1 f2 f3 f4 f5 f6 f7 f8 f9 f10 f11 f12 f13 f14 f15 f16 f17 = some (r0, r1, r2, r3, r4, r5, r6, r7, r8, r9, r10, r11, r12, r13, r14, r15, r16, r17, r18, r19, r20, r21, r22)) :
    Calls Try.prog 21 #[.pointer (some ⟨g, 0, none⟩)] w fun e w' => e = .returned (.tuple #[.agg #[.int .i64 r0, .int .i64 r1, .int .i64 r2, .int .i64 r3], .int .i64 r4]) ∧ IsS77 w0 w' g r5 r6 r7 r8 r9 r10 r11 r12 r13 r14 r15 r16 r17 r18 r19 r20 r21 r22 ∧ Below w0.heap.size w0 w' ∧ HdKeep w w' := by
  unfold head_Reader_Head.f at h
  have hu := Try.underlying77
  have hu2 := Try.underlying36
  have HI := Aside0.mk hI
  have HB := Aside0.mk hB
  by_cases e0 : f17 = 0
  · rw [if_pos e0] at h
    simp only [Option.some.injEq, Prod.mk.injEq] at h
    obtain ⟨rfl, rfl, rfl, rfl, rfl, rfl, rfl, rfl, rfl, rfl, rfl, rfl, rfl, rfl, rfl, rfl, rfl, rfl, rfl, rfl, rfl, rfl, rfl⟩ := h
    have e1 : (f17 != 0) = false := bne_eq_false_iff_eq.2 e0
    clear e0
    go_enter Try.func21, Try.ntmps21
    go_wp2_with (((with_reducible refine gate_dst (N := 2) rfl ?_); refine box_event ?hg (N := 2) ?hd (cs := #[.int .i64 0, .int .i64 0, .int .i64 0, .int .i64 0]) (t := 36) ?hr ?_; (case hd => rfl); (case hg => rfl); (case hr => first | (go_simp; done) | (go_simp; rfl)); intro gb1 hg w2 hbox hb; have HB1 := Aside0.mk hb; have BK1 := Aside0.mk hbox; have GE1 := Aside0.mk (Nat.le_of_eq hg.symm : w.heap.size ≤ gb1); have HS2 := Aside0.mk (HI.out.below hb); have HNB := Aside0.mk (IsS77.ne_blk HS2.out hbox (by decide)); have hnb := HNB.out; have hnc : gb1 ≠ g := fun e => HNB.out e.symm; clear hb hbox hg; obtain ⟨gn, hb2, _, _⟩ := HS2.out; have hcz2_0 : w2.cell? ⟨g, 0, none⟩ = some (.int .i64 f0) := (blk_cell hb2 0).trans rfl; have hcz2_1 : w2.cell? ⟨g, 1, none⟩ = some (.int .i64 f1) := (blk_cell hb2 1).trans rfl; have hcz2_2 : w2.cell? ⟨g, 2, none⟩ = some (.int .i64 f2) := (blk_cell hb2 2).trans rfl; have hcz2_3 : w2.cell? ⟨g, 3, none⟩ = some (.int .i64 f3) := (blk_cell hb2 3).trans rfl; have hcz2_11 : w2.cell? ⟨g, 11, none⟩ = some (.int .i64 f17) := (blk_cell hb2 11).trans rfl; have hfz2_0 := blk_frozen hb2 0; have hfz2_1 := blk_frozen hb2 1; have hfz2_2 := blk_frozen hb2 2; have hfz2_3 := blk_frozen hb2 3; have hfz2_11 := blk_frozen hb2 11; have hcb_0 : w2.cell? ⟨gb1, 0, none⟩ = some (.int .i64 0) := (blk_cell BK1.out 0).trans rfl; have hfb_0 := blk_frozen BK1.out 0; have hcb_1 : w2.cell? ⟨gb1, 1, none⟩ = some (.int .i64 0) := (blk_cell BK1.out 1).trans rfl; have hfb_1 := blk_frozen BK1.out 1; have hcb_2 : w2.cell? ⟨gb1, 2, none⟩ = some (.int .i64 0) := (blk_cell BK1.out 2).trans rfl; have hfb_2 := blk_frozen BK1.out 2; have hcb_3 : w2.cell? ⟨gb1, 3, none⟩ = some (.int .i64 0) := (blk_cell BK1.out 3).trans rfl; have hfb_3 := blk_frozen BK1.out 3; clear hb2))
    refine bodyPost_ret (results_ct rfl _ _ gb1 36 #[.int .i64 f0, .int .i64 f1, .int .i64 f2, .int .i64 f3] (0, 0) _ rfl (blk_set (blk_set (blk_set (blk_set (BK1.out) 0 (.int .i64 f0)) 1 (.int .i64 f1)) 2 (.int .i64 f2)) 3 (.int .i64 f3)) Try.underlying36 rfl (by kernel_rfl)) rfl ?_
    exact ⟨rfl, ((((HS2.out).far (p := ⟨gb1, 0, none⟩) (BK1.out) (by decide) (.int .i64 f0)).far (p := ⟨gb1, 1, none⟩) (blk_set (BK1.out) 0 (.int .i64 f0)) (by decide) (.int .i64 f1)).far (p := ⟨gb1, 2, none⟩) (blk_set (blk_set (BK1.out) 0 (.int .i64 f0)) 1 (.int .i64 f1)) (by decide) (.int .i64 f2)).far (p := ⟨gb1, 3, none⟩) (blk_set (blk_set (blk_set (BK1.out) 0 (.int .i64 f0)) 1 (.int .i64 f1)) 2 (.int .i64 f2)) (by decide) (.int .i64 f3), below_step HB.out (below_set (below_set (below_set (below_set HB1.out GE1.out) GE1.out) GE1.out) GE1.out), HdKeep.below (below_set (below_set (below_set (below_set HB1.out GE1.out) GE1.out) GE1.out) GE1.out)⟩
  · rw [if_neg e0] at h
    simp only [Option.some.injEq, Prod.mk.injEq] at h
    obtain ⟨rfl, rfl, rfl, rfl, rfl, rfl, rfl, rfl, rfl, rfl, rfl, rfl, rfl, rfl, rfl, rfl, rfl, rfl, rfl, rfl, rfl, rfl, rfl⟩ := h
    have e1 : (f17 != 0) = true := bne_iff_ne.2 e0
    clear e0
    go_enter Try.func21, Try.ntmps21
    go_wp2_with (((with_reducible refine gate_dst (N := 2) rfl ?_); refine box_event ?hg (N := 2) ?hd (cs := #[.int .i64 0, .int .i64 0, .int .i64 0, .int .i64 0]) (t := 36) ?hr ?_; (case hd => rfl); (case hg => rfl); (case hr => first | (go_simp; done) | (go_simp; rfl)); intro gb1 hg w2 hbox hb; have HB1 := Aside0.mk hb; have BK1 := Aside0.mk hbox; have GE1 := Aside0.mk (Nat.le_of_eq hg.symm : w.heap.size ≤ gb1); have HS2 := Aside0.mk (HI.out.below hb); have HNB := Aside0.mk (IsS77.ne_blk HS2.out hbox (by decide)); have hnb := HNB.out; have hnc : gb1 ≠ g := fun e => HNB.out e.symm; clear hb hbox hg; obtain ⟨gn, hb2, _, _⟩ := HS2.out; have hcz2_0 : w2.cell? ⟨g, 0, none⟩ = some (.int .i64 f0) := (blk_cell hb2 0).trans rfl; have hcz2_1 : w2.cell? ⟨g, 1, none⟩ = some (.int .i64 f1) := (blk_cell hb2 1).trans rfl; have hcz2_2 : w2.cell? ⟨g, 2, none⟩ = some (.int .i64 f2) := (blk_cell hb2 2).trans rfl; have hcz2_3 : w2.cell? ⟨g, 3, none⟩ = some (.int .i64 f3) := (blk_cell hb2 3).trans rfl; have hcz2_11 : w2.cell? ⟨g, 11, none⟩ = some (.int .i64 f17) := (blk_cell hb2 11).trans rfl; have hfz2_0 := blk_frozen hb2 0; have hfz2_1 := blk_frozen hb2 1; have hfz2_2 := blk_frozen hb2 2; have hfz2_3 := blk_frozen hb2 3; have hfz2_11 := blk_frozen hb2 11; have hcb_0 : w2.cell? ⟨gb1, 0, none⟩ = some (.int .i64 0) := (blk_cell BK1.out 0).trans rfl; have hfb_0 := blk_frozen BK1.out 0; have hcb_1 : w2.cell? ⟨gb1, 1, none⟩ = some (.int .i64 0) := (blk_cell BK1.out 1).trans rfl; have hfb_1 := blk_frozen BK1.out 1; have hcb_2 : w2.cell? ⟨gb1, 2, none⟩ = some (.int .i64 0) := (blk_cell BK1.out 2).trans rfl; have hfb_2 := blk_frozen BK1.out 2; have hcb_3 : w2.cell? ⟨gb1, 3, none⟩ = some (.int .i64 0) := (blk_cell BK1.out 3).trans rfl; have hfb_3 := blk_frozen BK1.out 3; clear hb2))
    go_region
    all_goals (try go_wp2)
    refine bodyPost_ret (results_ct rfl _ _ gb1 36 #[.int .i64 0, .int .i64 0, .int .i64 0, .int .i64 0] (0, 0) _ rfl (blk_set (blk_set (blk_set (blk_set (BK1.out) 0 (.int .i64 0)) 1 (.int .i64 0)) 2 (.int .i64 0)) 3 (.int .i64 0)) Try.underlying36 rfl (by kernel_rfl)) rfl ?_
    exact ⟨rfl, (((((HS2.out).far (p := ⟨gb1, 0, none⟩) (BK1.out) (by decide) (.int .i64 0)).far (p := ⟨gb1, 1, none⟩) (blk_set (BK1.out) 0 (.int .i64 0)) (by decide) (.int .i64 0)).far (p := ⟨gb1, 2, none⟩) (blk_set (blk_set (BK1.out) 0 (.int .i64 0)) 1 (.int .i64 0)) (by decide) (.int .i64 0)).far (p := ⟨gb1, 3, none⟩) (blk_set (blk_set (blk_set (BK1.out) 0 (.int .i64 0)) 1 (.int .i64 0)) 2 (.int .i64 0)) (by decide) (.int .i64 0)).drew, below_step HB.out (below_drew1 (below_set (below_set (below_set (below_set HB1.out GE1.out) GE1.out) GE1.out) GE1.out)), HdKeep.below (below_drew1 (below_set (below_set (below_set (below_set HB1.out GE1.out) GE1.out) GE1.out) GE1.out))⟩
end Go.Proofs.Ytmimfljiighbaaa.Q
