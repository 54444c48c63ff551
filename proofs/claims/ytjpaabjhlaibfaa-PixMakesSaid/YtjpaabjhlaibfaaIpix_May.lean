/- pix.May: whether a pixel may be, for every number. -/
import Derived.Test.YtjpaabjhlaibfaaQ0
import Derived.Test.YtjpaabjhlaibfaaIpix_Unpack
import Derived.Below
import Derived.Deep.Draws
import Derived.Deep.AppendLies
import Derived.Maps.AppendAt
import Derived.OwnWalk
import Derived.Laws.BytesArg
import Derived.Laws.MakeOwn
import Derived.Laws.OwnMore
import Derived.Deep.OwnRows
import Derived.Tactics
import Derived.Lib.ConvBytes
import Derived.Laws.Slices
import Derived.WalkKit
import Derived.KernelRfl
import Derived.RowKit3
import Derived.Deep.LoopGhost
import Derived.Deep.QuietTactic
import Derived.BigQuiet
import Derived.WideLaws
import Derived.Deep.DeepCutAuto
import Derived.Deep.CutBlock
import Derived.Deep.RegionHeld3
import Derived.Laws.Rows
import Derived.Lib.AppendStr
import Derived.ArgAppend
import Derived.Laws.IdiomCopy
import Derived.OrdersHeld
import Derived.Laws.BitsLemmas
import Derived.RowKit
import Derived.Test.YtjpaabjhlaibfaaMore
import Derived.Test.YtjpaabjhlaibfaaWWords
import Derived.Test.YtjpaabjhlaibfaaWLast
import Derived.Test.YtjpaabjhlaibfaaWTab
import Derived.Test.YtjpaabjhlaibfaaWFour
import Derived.Test.YtjpaabjhlaibfaaWQPut
import Derived.Test.YtjpaabjhlaibfaaWApart
import Derived.Test.YtjpaabjhlaibfaaWArr
import Derived.Test.YtjpaabjhlaibfaaWZeros
import Derived.Test.YtjpaabjhlaibfaaWFoot
import Derived.Test.YtjpaabjhlaibfaaWKept
import Derived.Test.YtjpaabjhlaibfaaWShare
import Derived.Test.YtjpaabjhlaibfaaWN
import Derived.Test.YtjpaabjhlaibfaaWFootNe
import Derived.Test.YtjpaabjhlaibfaaWAt
import Derived.Test.YtjpaabjhlaibfaaWEqStruct
import Derived.Test.YtjpaabjhlaibfaaWRepsOne
import Derived.Test.YtjpaabjhlaibfaaWInv
import Derived.Test.YtjpaabjhlaibfaaWInvWords
import Derived.Test.YtjpaabjhlaibfaaWGuard
import Derived.Test.YtjpaabjhlaibfaaWNEv
import Derived.Test.YtjpaabjhlaibfaaWMore
import Derived.WalkSpells
namespace Go.Proofs.Ytjpaabjhlaibfaa.Q
open Go.RowKit Go.Proofs.YtjpaabjhlaibfaaW.PrintWords Go.Proofs.YtjpaabjhlaibfaaW.PrintLast
set_option linter.unusedVariables false
set_option linter.unusedSimpArgs false
def pix_May.f (a0 : Int) : Option Bool := if 0 ≤ a0 ∧ a0 ≤ 18446744073709551615 then some (decide (pixL a0 ≠ [])) else none
set_option maxRecDepth 100000 in
set_option maxHeartbeats 4000000 in
theorem pix_May.calls (a0 : Int) (r : Bool) (w : World) (h : pix_May.f a0 = some r) :
    Calls Try.prog 16 #[.int .u64 a0] w fun e w' => e = .returned (.bool r) ∧ Below w.heap.size w w' := by
  unfold pix_May.f at h
  split at h
  · rename_i hr
    obtain rfl := Option.some.inj h
    have hu := pix_Unpack.is a0 hr.1 hr.2 w
    unfold pixV at hu
    have hn : ∀ (W : World) (a : Option Addr) (n c : Nat), (binOp .neq 22 (.slice a n c) (.slice none 0 0)).run Try.prog W = .ok (.bool (!a.isNone)) W := fun W a n c => run_neq_slice_nil_any W _ _ a n c 0 0 Try.underlying22
    unfold pixL
    have hB : Below w.heap.size w (w.alloc (.cells (pixC a0) 53)) := below_alloc (Below.refl _ _) _
    by_cases h3 : a0 / 281474976710656 = 3
    · rw [if_pos h3] at hu
      rw [if_pos h3]
      go_enter Try.func16, Try.ntmps16
      go_wp2_with (go_at_call 14; refine hu.mono ?_; rintro e w' ⟨rfl, rfl⟩)
      go_ret
      exact ⟨rfl, hB⟩
    · rw [if_neg h3] at hu
      rw [if_neg h3]
      by_cases h4 : a0 / 281474976710656 = 1 ∧ a0 / 4294967296 % 65536 = 0 ∧ a0 / 65536 % 65536 = 0
      · rw [if_pos h4] at hu
        rw [if_pos h4]
        go_enter Try.func16, Try.ntmps16
        go_wp2_with (go_at_call 14; refine hu.mono ?_; rintro e w' ⟨rfl, rfl⟩)
        go_ret
        exact ⟨rfl, hB⟩
      · rw [if_neg h4] at hu
        rw [if_neg h4]
        go_enter Try.func16, Try.ntmps16
        go_wp2_with (go_at_call 14; refine hu.mono ?_; rintro e w' ⟨rfl, rfl⟩)
        go_ret
        exact ⟨rfl, hB⟩
  · simp at h
end Go.Proofs.Ytjpaabjhlaibfaa.Q
