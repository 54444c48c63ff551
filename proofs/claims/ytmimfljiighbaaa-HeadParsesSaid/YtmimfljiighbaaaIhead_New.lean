/- head.New: a reader of heads that was told nothing. -/
import Derived.Test.YtmimfljiighbaaaQ0
import Derived.Below
import Derived.Deep.Draws
import Derived.Deep.AppendLies
import Derived.Maps.AppendAt
import Derived.OwnWalk
import Derived.Laws.BytesArg
import Derived.Laws.MakeOwn
import Derived.Laws.OwnMore
import Derived.Deep.OwnRows
import Derived.Tactics
import Derived.Lib.ConvBytes
import Derived.Laws.Slices
import Derived.WalkKit
import Derived.KernelRfl
import Derived.RowKit3
import Derived.Deep.LoopGhost
import Derived.Deep.QuietTactic
import Derived.BigQuiet
import Derived.WideLaws
import Derived.Deep.DeepCutAuto
import Derived.Deep.CutBlock
import Derived.Deep.RegionHeld3
import Derived.Laws.Rows
import Derived.Lib.AppendStr
import Derived.ArgAppend
import Derived.Laws.IdiomCopy
import Derived.OrdersHeld
import Derived.Laws.BitsLemmas
import Derived.RowKit
import Derived.Test.YtmimfljiighbaaaMore
import Derived.Test.YtmimfljiighbaaaPeel
import Derived.Test.YtmimfljiighbaaaTok
import Derived.Test.YtmimfljiighbaaaHead
import Derived.Scope
import Derived.Test.YtmimfljiighbaaaWWords
import Derived.Test.YtmimfljiighbaaaWLast
import Derived.Test.YtmimfljiighbaaaWTab
import Derived.Test.YtmimfljiighbaaaWFour
import Derived.Test.YtmimfljiighbaaaWQPut
import Derived.Test.YtmimfljiighbaaaWApart
import Derived.Test.YtmimfljiighbaaaWArr
import Derived.Test.YtmimfljiighbaaaWZeros
import Derived.Test.YtmimfljiighbaaaWFoot
import Derived.Test.YtmimfljiighbaaaWKept
import Derived.Test.YtmimfljiighbaaaWShare
import Derived.Test.YtmimfljiighbaaaWN
import Derived.Test.YtmimfljiighbaaaWFootNe
import Derived.Test.YtmimfljiighbaaaWAt
import Derived.Test.YtmimfljiighbaaaWEqStruct
import Derived.Test.YtmimfljiighbaaaWRepsOne
import Derived.Test.YtmimfljiighbaaaWInv
import Derived.Test.YtmimfljiighbaaaWInvWords
import Derived.Test.YtmimfljiighbaaaWGuard
import Derived.Test.YtmimfljiighbaaaWNEv
import Derived.Test.YtmimfljiighbaaaWMore
import Derived.Deep.RegionWith
import Derived.StillTailTactics
namespace Go.Proofs.Ytmimfljiighbaaa.Q
open Go.RowKit Go.Proofs.YtmimfljiighbaaaW.PrintWords Go.Proofs.YtmimfljiighbaaaW.PrintLast Go.Proofs.YtmimfljiighbaaaW.PrintMore
set_option linter.unusedVariables false
set_option linter.unusedSimpArgs false
def hdCut (n m : Int) : Int := mn (mx n 1) m
attribute [local go_sem] max2_int min2_int max_two min_two
set_option maxRecDepth 100000 in
set_option maxHeartbeats 1000000 in
theorem head_cut.calls (n m : Int) (w : World) : Calls Try.prog 37 #[.int .i64 n, .int .i64 m] w fun e w' => e = .returned (.int .i64 (hdCut n m)) ∧ w' = w := by
  obtain ⟨j1, h1⟩ : ∃ j_ : Int, mx n 1 = j_ := ⟨_, rfl⟩
  have h1_ : (if n < 1 then 1 else n) = j1 := h1
  obtain ⟨j2, h2⟩ : ∃ j_ : Int, mn j1 m = j_ := ⟨_, rfl⟩
  have h2_ : (if m < j1 then m else j1) = j2 := h2
  have h3 : hdCut n m = j2 := by unfold hdCut; rw [h1, h2]
  rw [h3]
  clear h1 h2 h3
  go_enter Try.func37, Try.ntmps37
  go_wp2
  go_ret
  exact ⟨rfl, rfl⟩
def head_New.f (a0_0 a0_1 a0_2 : Int) : Option (Int × Int × Int × Int × Int × Int × Int × Int × Int × Bool × Int × Int × Int × Bool × Int × Int × Int × Int) := some (0, 0, 0, 0, hdCut a0_0 4096, hdCut a0_1 65536, hdCut a0_2 65535, 0, 0, false, 0, 0, 0, false, 0, 0, 0, 9)
set_option maxRecDepth 100000 in
set_option maxHeartbeats 1000000 in
theorem head_New.calls (a0_0 a0_1 a0_2 : Int) (r1 r2 r3 r4 r5 r6 r7 r8 r9 : Int) (r10 : Bool) (r11 r12 r13 : Int) (r14 : Bool) (r15 r16 r17 r18 : Int) (w0 w : World) (hB : Below w0.heap.size w0 w) (h : head_New.f a0_0 a0_1 a0_2 = some (r1, r2, r3, r4, r5, r6, r7, r8, r9, r10, r11, r12, r13, r14, r15, r16, r17, r18)) :
    Calls Try.prog 19 #[.agg #[.int .i64 a0_0, .int .i64 a0_1, .int .i64 a0_2]] w fun e w' => ∃ g_ : Nat, e = .returned (.pointer (some ⟨g_, 0, none⟩)) ∧ IsS77 w0 w' g_ r1 r2 r3 r4 r5 r6 r7 r8 r9 r10 r11 r12 r13 r14 r15 r16 r17 r18 ∧ Below w0.heap.size w0 w' ∧ Below w.heap.size w w' := by
  simp only [head_New.f, Option.some.injEq, Prod.mk.injEq] at h
  obtain ⟨rfl, rfl, rfl, rfl, rfl, rfl, rfl, rfl, rfl, rfl, rfl, rfl, rfl, rfl, rfl, rfl, rfl, rfl⟩ := h
  have HB := Aside0.mk hB
  clear hB
  have hu := Try.underlying77
  go_enter Try.func19, Try.ntmps19
  go_wp2_with ((with_reducible refine gate_dst (N := 1) rfl ?_); refine box_event ?hg (N := 1) ?hd (cs := #[.int .i64 a0_0, .int .i64 a0_1, .int .i64 a0_2]) (t := 23) ?hr ?_; (case hd => rfl); (case hg => rfl); (case hr => first | (go_simp; done) | (go_simp; rfl)); intro gb1 hg w2 hbox hb; have HB1 := Aside0.mk hb; have BK1 := Aside0.mk hbox; clear hb hbox hg; have hcz0 : w2.cell? ⟨gb1, 0, none⟩ = some (.int .i64 a0_0) := (blk_cell BK1.out 0).trans rfl; have hcz1 : w2.cell? ⟨gb1, 1, none⟩ = some (.int .i64 a0_1) := (blk_cell BK1.out 1).trans rfl; have hcz2 : w2.cell? ⟨gb1, 2, none⟩ = some (.int .i64 a0_2) := (blk_cell BK1.out 2).trans rfl)
  go_still_tail 14, (by kernel_rfl)
  still_call (head_cut.calls _ _ _)
  repeat still_step
  still_call (head_cut.calls _ _ _)
  repeat still_step
  still_call (head_cut.calls _ _ _)
  repeat still_step
  refine wpStill_nil ?_
  change wpList _ _ _ _ _ w2.drew
  have HB2 : Aside0 (Below w.heap.size w w2.drew) := ⟨below_drew1 HB1.out⟩
  generalize w2.drew = w3 at *
  go_wp2_with ((with_reducible refine gate_dst (N := 18) rfl ?_); refine box_event ?hg (N := 18) ?hd (cs := #[.int .i64 0, .int .i64 0, .int .i64 0, .int .i64 0, .int .i64 (hdCut a0_0 4096), .int .i64 (hdCut a0_1 65536), .int .i64 (hdCut a0_2 65535), .int .i64 0, .int .i64 0, .pointer none, .int .i64 0, .int .i64 9]) (t := 77) ?hr ?_; (case hd => rfl); (case hg => rfl); (case hr => first | (go_simp; done) | (go_simp; rfl)); intro gb4 hg w4 hbox hb; have HB4 := Aside0.mk hb; have BK4 := Aside0.mk hbox; have GE4 := Aside0.mk (Nat.le_of_eq hg.symm : w3.heap.size ≤ gb4); clear hb hbox hg)
  go_ret
  exact ⟨gb4, rfl, ⟨0, BK4.out, Nat.le_trans (Nat.le_trans HB.out.size HB2.out.size) GE4.out, fun h => absurd h (by decide)⟩, below_step (below_step HB.out HB2.out) HB4.out, below_step HB2.out HB4.out⟩
end Go.Proofs.Ytmimfljiighbaaa.Q
