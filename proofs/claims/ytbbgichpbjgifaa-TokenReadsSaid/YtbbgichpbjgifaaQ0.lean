-- written by our own program (wip/tools/myprint.py) out of the translation, by the kit's print; Lean checks it
import Derived.Test.YtbbgichpbjgifaaProg
import Derived.Below
import Derived.Deep.Draws
import Derived.Deep.AppendLies
import Derived.Maps.AppendAt
import Derived.OwnWalk
import Derived.Laws.BytesArg
import Derived.Laws.MakeOwn
import Derived.Laws.OwnMore
import Derived.Deep.OwnRows
import Derived.Tactics
import Derived.Lib.ConvBytes
import Derived.Laws.Slices
import Derived.WalkKit
import Derived.KernelRfl
import Derived.RowKit3
import Derived.Deep.LoopGhost
import Derived.Deep.QuietTactic
import Derived.BigQuiet
import Derived.WideLaws
import Derived.Deep.DeepCutAuto
import Derived.Deep.CutBlock
import Derived.Deep.RegionHeld3
import Derived.Laws.Rows
import Derived.Lib.AppendStr
import Derived.ArgAppend
import Derived.Laws.IdiomCopy
import Derived.OrdersHeld
import Derived.Laws.BitsLemmas
import Derived.RowKit
import Derived.Test.YtbbgichpbjgifaaMore
import Derived.Test.YtbbgichpbjgifaaPeel
import Derived.Test.YtbbgichpbjgifaaTok
import Derived.Scope
import Derived.Test.YtbbgichpbjgifaaWWords
import Derived.Test.YtbbgichpbjgifaaWLast
import Derived.Test.YtbbgichpbjgifaaWTab
import Derived.Test.YtbbgichpbjgifaaWFour
import Derived.Test.YtbbgichpbjgifaaWQPut
import Derived.Test.YtbbgichpbjgifaaWApart
import Derived.Test.YtbbgichpbjgifaaWArr
import Derived.Test.YtbbgichpbjgifaaWZeros
import Derived.Test.YtbbgichpbjgifaaWFoot
import Derived.Test.YtbbgichpbjgifaaWKept
import Derived.Test.YtbbgichpbjgifaaWShare
import Derived.Test.YtbbgichpbjgifaaWN
import Derived.Test.YtbbgichpbjgifaaWFootNe
import Derived.Test.YtbbgichpbjgifaaWAt
import Derived.Test.YtbbgichpbjgifaaWEqStruct
import Derived.Test.YtbbgichpbjgifaaWRepsOne
import Derived.Test.YtbbgichpbjgifaaWInv
import Derived.Test.YtbbgichpbjgifaaWInvWords
import Derived.Test.YtbbgichpbjgifaaWGuard
import Derived.Test.YtbbgichpbjgifaaWNEv
import Derived.Test.YtbbgichpbjgifaaWMore
namespace Go.Proofs.Ytbbgichpbjgifaa.Q
open Go.RowKit Go.Proofs.YtbbgichpbjgifaaW.PrintWords Go.Proofs.YtbbgichpbjgifaaW.PrintLast Go.Proofs.YtbbgichpbjgifaaW.PrintMore
attribute [local go_sem] max2_int min2_int max_two min_two max_three min_three max_four min_four   -- for this text's walks alone
set_option linter.unusedVariables false
set_option linter.unusedSimpArgs false



def errW : Option Int → Value
  | none => .nilIface
  | some c => .iface 0 (.int .i64 c)
theorem errW_none : errW none = .nilIface := rfl
theorem errW_some (c : Int) : errW (some c) = .iface 0 (.int .i64 c) := rfl

theorem info3 : (Try.prog.info? 3).map (fun i => (i.zero, i.size, i.bytes)) = some (some (.int .i64 0), 1, 8) := by kernel_rfl
theorem info5 : (Try.prog.info? 5).map (fun i => (i.zero, i.size, i.bytes)) = some (some (.int .u8 0), 1, 1) := by kernel_rfl
-- the values' own types

end Go.Proofs.Ytbbgichpbjgifaa.Q
