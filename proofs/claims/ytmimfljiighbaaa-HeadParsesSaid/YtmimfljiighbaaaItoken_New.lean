/- token.New: a reader of numbers that was told nothing. -/
import Derived.Test.YtmimfljiighbaaaQ0
import Derived.Below
import Derived.Deep.Draws
import Derived.Deep.AppendLies
import Derived.Maps.AppendAt
import Derived.OwnWalk
import Derived.Laws.BytesArg
import Derived.Laws.MakeOwn
import Derived.Laws.OwnMore
import Derived.Deep.OwnRows
import Derived.Tactics
import Derived.Lib.ConvBytes
import Derived.Laws.Slices
import Derived.WalkKit
import Derived.KernelRfl
import Derived.RowKit3
import Derived.Deep.LoopGhost
import Derived.Deep.QuietTactic
import Derived.BigQuiet
import Derived.WideLaws
import Derived.Deep.DeepCutAuto
import Derived.Deep.CutBlock
import Derived.Deep.RegionHeld3
import Derived.Laws.Rows
import Derived.Lib.AppendStr
import Derived.ArgAppend
import Derived.Laws.IdiomCopy
import Derived.OrdersHeld
import Derived.Laws.BitsLemmas
import Derived.RowKit
import Derived.Test.YtmimfljiighbaaaMore
import Derived.Test.YtmimfljiighbaaaPeel
import Derived.Test.YtmimfljiighbaaaTok
import Derived.Test.YtmimfljiighbaaaHead
import Derived.Scope
import Derived.Test.YtmimfljiighbaaaWWords
import Derived.Test.YtmimfljiighbaaaWLast
import Derived.Test.YtmimfljiighbaaaWTab
import Derived.Test.YtmimfljiighbaaaWFour
import Derived.Test.YtmimfljiighbaaaWQPut
import Derived.Test.YtmimfljiighbaaaWApart
import Derived.Test.YtmimfljiighbaaaWArr
import Derived.Test.YtmimfljiighbaaaWZeros
import Derived.Test.YtmimfljiighbaaaWFoot
import Derived.Test.YtmimfljiighbaaaWKept
import Derived.Test.YtmimfljiighbaaaWShare
import Derived.Test.YtmimfljiighbaaaWN
import Derived.Test.YtmimfljiighbaaaWFootNe
import Derived.Test.YtmimfljiighbaaaWAt
import Derived.Test.YtmimfljiighbaaaWEqStruct
import Derived.Test.YtmimfljiighbaaaWRepsOne
import Derived.Test.YtmimfljiighbaaaWInv
import Derived.Test.YtmimfljiighbaaaWInvWords
import Derived.Test.YtmimfljiighbaaaWGuard
import Derived.Test.YtmimfljiighbaaaWNEv
import Derived.Test.YtmimfljiighbaaaWMore
namespace Go.Proofs.Ytmimfljiighbaaa.Q
open Go.RowKit Go.Proofs.YtmimfljiighbaaaW.PrintWords Go.Proofs.YtmimfljiighbaaaW.PrintLast
set_option linter.unusedVariables false
set_option linter.unusedSimpArgs false
def token_New.f (a0 : Int) : Option (Int × Int × Int × Bool × Int × Int) := some (0, a0, 0, false, 0, 9)
set_option maxRecDepth 100000 in
set_option maxHeartbeats 4000000 in
theorem token_New.calls (a0 : Int) (r1 : Int) (r2 : Int) (r3 : Int) (r4 : Bool) (r5 : Int) (r6 : Int) (w0 w : World) (hB : Below w0.heap.size w0 w) (h : token_New.f a0 = some (r1, r2, r3, r4, r5, r6)) :
    Calls Try.prog 46 #[.int .i64 a0] w fun e w' => ∃ g_ : Nat, e = .returned (.pointer (some ⟨g_, 0, none⟩)) ∧ IsS93 w0 w' g_ r1 r2 r3 r4 r5 r6 ∧ Below w0.heap.size w0 w' ∧ Below w.heap.size w w' := by
  simp only [token_New.f, Option.some.injEq, Prod.mk.injEq] at h
  obtain ⟨rfl, rfl, rfl, rfl, rfl, rfl⟩ := h
  have HB := Aside0.mk hB
  clear hB
  have hmf_ : ∀ (fn_ : Fn) (first cap : Array Value) (w_ : World), (Instr.makeFunc fn_ first cap).run Try.prog w_ = .ok (.func fn_ first cap) w_ := fun _ _ _ _ => rfl
  have hu := Try.underlying93
  go_enter Try.func46, Try.ntmps46
  go_wp2_with ((with_reducible refine gate_dst (N := 6) rfl ?_); refine box_event ?hg (N := 6) ?hd (cs := #[.nilFunc, .int .i64 a0, .int .i64 0, .bool false, .int .i64 0, .int .i64 9]) (t := 93) ?hr ?_; (case hd => rfl); (case hg => rfl); (case hr => first | (go_simp; done) | (go_simp; rfl)); intro gb1 hg w2 hbox hb; have HB1 := Aside0.mk hb; have BK1 := Aside0.mk hbox; have GE1 := Aside0.mk (Nat.le_of_eq hg.symm : w.heap.size ≤ gb1); clear hb hbox hg; have hcz0 : w2.cell? ⟨gb1, 0, none⟩ = some .nilFunc := (blk_cell BK1.out 0).trans rfl; have hfz0 := blk_frozen BK1.out 0)
  go_ret
  have hb2 := blk_set BK1.out 0 (modeV gb1 0)
  exact ⟨gb1, rfl, ⟨hb2, Nat.le_trans HB.out.size GE1.out⟩, below_set (below_step HB.out HB1.out) (Nat.le_trans HB.out.size GE1.out), below_set HB1.out GE1.out⟩
end Go.Proofs.Ytmimfljiighbaaa.Q
