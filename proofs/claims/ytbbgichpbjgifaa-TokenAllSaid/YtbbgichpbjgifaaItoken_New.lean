/- token.New: a reader of numbers that was told nothing. -/
import Derived.Test.YtbbgichpbjgifaaQ0
import Derived.Below
import Derived.Deep.Draws
import Derived.Deep.AppendLies
import Derived.Maps.AppendAt
import Derived.OwnWalk
import Derived.Laws.BytesArg
import Derived.Laws.MakeOwn
import Derived.Laws.OwnMore
import Derived.Deep.OwnRows
import Derived.Tactics
import Derived.Lib.ConvBytes
import Derived.Laws.Slices
import Derived.WalkKit
import Derived.KernelRfl
import Derived.RowKit3
import Derived.Deep.LoopGhost
import Derived.Deep.QuietTactic
import Derived.BigQuiet
import Derived.WideLaws
import Derived.Deep.DeepCutAuto
import Derived.Deep.CutBlock
import Derived.Deep.RegionHeld3
import Derived.Laws.Rows
import Derived.Lib.AppendStr
import Derived.ArgAppend
import Derived.Laws.IdiomCopy
import Derived.OrdersHeld
import Derived.Laws.BitsLemmas
import Derived.RowKit
import Derived.Test.YtbbgichpbjgifaaMore
import Derived.Test.YtbbgichpbjgifaaPeel
import Derived.Test.YtbbgichpbjgifaaTok
import Derived.Scope
import Derived.Test.YtbbgichpbjgifaaWWords
import Derived.Test.YtbbgichpbjgifaaWLast
import Derived.Test.YtbbgichpbjgifaaWTab
import Derived.Test.YtbbgichpbjgifaaWFour
import Derived.Test.YtbbgichpbjgifaaWQPut
import Derived.Test.YtbbgichpbjgifaaWApart
import Derived.Test.YtbbgichpbjgifaaWArr
import Derived.Test.YtbbgichpbjgifaaWZeros
import Derived.Test.YtbbgichpbjgifaaWFoot
import Derived.Test.YtbbgichpbjgifaaWKept
import Derived.Test.YtbbgichpbjgifaaWShare
import Derived.Test.YtbbgichpbjgifaaWN
import Derived.Test.YtbbgichpbjgifaaWFootNe
import Derived.Test.YtbbgichpbjgifaaWAt
import Derived.Test.YtbbgichpbjgifaaWEqStruct
import Derived.Test.YtbbgichpbjgifaaWRepsOne
import Derived.Test.YtbbgichpbjgifaaWInv
import Derived.Test.YtbbgichpbjgifaaWInvWords
import Derived.Test.YtbbgichpbjgifaaWGuard
import Derived.Test.YtbbgichpbjgifaaWNEv
import Derived.Test.YtbbgichpbjgifaaWMore
namespace Go.Proofs.Ytbbgichpbjgifaa.Q
open Go.RowKit Go.Proofs.YtbbgichpbjgifaaW.PrintWords Go.Proofs.YtbbgichpbjgifaaW.PrintLast
set_option linter.unusedVariables false
set_option linter.unusedSimpArgs false
def token_New.f (a0 : Int) : Option (Int × Int × Int × Bool × Int × Int) := some (0, a0, 0, false, 0, 9)
set_option maxRecDepth 100000 in
set_option maxHeartbeats 4000000 in
theorem token_New.calls (a0 : Int) (r1 : Int) (r2 : Int) (r3 : Int) (r4 : Bool) (r5 : Int) (r6 : Int) (w0 w : World) (hB : Below w0.heap.size w0 w) (h : token_New.f a0 = some (r1, r2, r3, r4, r5, r6)) :
    Calls Try.prog 16 #[.int .i64 a0] w fun e w' => ∃ g_ : Nat, e = .returned (.pointer (some ⟨g_, 0, none⟩)) ∧ IsS52 w0 w' g_ r1 r2 r3 r4 r5 r6 ∧ Below w0.heap.size w0 w' ∧ Below w.heap.size w w' := by
  simp only [token_New.f, Option.some.injEq, Prod.mk.injEq] at h
  obtain ⟨rfl, rfl, rfl, rfl, rfl, rfl⟩ := h
  have HB := Aside0.mk hB
  clear hB
  have hmf_ : ∀ (fn_ : Fn) (first cap : Array Value) (w_ : World), (Instr.makeFunc fn_ first cap).run Try.prog w_ = .ok (.func fn_ first cap) w_ := fun _ _ _ _ => rfl
  have hu := Try.underlying52
  go_enter Try.func16, Try.ntmps16
  go_wp2_with ((with_reducible refine gate_dst (N := 6) rfl ?_); refine box_event ?hg (N := 6) ?hd (cs := #[.nilFunc, .int .i64 a0, .int .i64 0, .bool false, .int .i64 0, .int .i64 9]) (t := 52) ?hr ?_; (case hd => rfl); (case hg => rfl); (case hr => first | (go_simp; done) | (go_simp; rfl)); intro gb1 hg w2 hbox hb; have HB1 := Aside0.mk hb; have BK1 := Aside0.mk hbox; have GE1 := Aside0.mk (Nat.le_of_eq hg.symm : w.heap.size ≤ gb1); clear hb hbox hg; have hcz0 : w2.cell? ⟨gb1, 0, none⟩ = some .nilFunc := (blk_cell BK1.out 0).trans rfl; have hfz0 := blk_frozen BK1.out 0)
  go_ret
  have hb2 := blk_set BK1.out 0 (modeV gb1 0)
  exact ⟨gb1, rfl, ⟨hb2, Nat.le_trans HB.out.size GE1.out⟩, below_set (below_step HB.out HB1.out) (Nat.le_trans HB.out.size GE1.out), below_set HB1.out GE1.out⟩
end Go.Proofs.Ytbbgichpbjgifaa.Q
