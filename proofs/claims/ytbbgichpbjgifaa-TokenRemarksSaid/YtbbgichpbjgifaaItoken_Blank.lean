/- token.Blank: whether a byte is a blank; strings.IndexByte beneath it. -/
import Derived.Test.YtbbgichpbjgifaaQ0
import Derived.Below
import Derived.Deep.Draws
import Derived.Deep.AppendLies
import Derived.Maps.AppendAt
import Derived.OwnWalk
import Derived.Laws.BytesArg
import Derived.Laws.MakeOwn
import Derived.Laws.OwnMore
import Derived.Deep.OwnRows
import Derived.Tactics
import Derived.Lib.ConvBytes
import Derived.Laws.Slices
import Derived.WalkKit
import Derived.KernelRfl
import Derived.RowKit3
import Derived.Deep.LoopGhost
import Derived.Deep.QuietTactic
import Derived.BigQuiet
import Derived.WideLaws
import Derived.Deep.DeepCutAuto
import Derived.Deep.CutBlock
import Derived.Deep.RegionHeld3
import Derived.Laws.Rows
import Derived.Lib.AppendStr
import Derived.ArgAppend
import Derived.Laws.IdiomCopy
import Derived.OrdersHeld
import Derived.Laws.BitsLemmas
import Derived.RowKit
import Derived.Test.YtbbgichpbjgifaaMore
import Derived.Test.YtbbgichpbjgifaaPeel
import Derived.Test.YtbbgichpbjgifaaTok
import Derived.Scope
import Derived.Test.YtbbgichpbjgifaaWWords
import Derived.Test.YtbbgichpbjgifaaWLast
import Derived.Test.YtbbgichpbjgifaaWTab
import Derived.Test.YtbbgichpbjgifaaWFour
import Derived.Test.YtbbgichpbjgifaaWQPut
import Derived.Test.YtbbgichpbjgifaaWApart
import Derived.Test.YtbbgichpbjgifaaWArr
import Derived.Test.YtbbgichpbjgifaaWZeros
import Derived.Test.YtbbgichpbjgifaaWFoot
import Derived.Test.YtbbgichpbjgifaaWKept
import Derived.Test.YtbbgichpbjgifaaWShare
import Derived.Test.YtbbgichpbjgifaaWN
import Derived.Test.YtbbgichpbjgifaaWFootNe
import Derived.Test.YtbbgichpbjgifaaWAt
import Derived.Test.YtbbgichpbjgifaaWEqStruct
import Derived.Test.YtbbgichpbjgifaaWRepsOne
import Derived.Test.YtbbgichpbjgifaaWInv
import Derived.Test.YtbbgichpbjgifaaWInvWords
import Derived.Test.YtbbgichpbjgifaaWGuard
import Derived.Test.YtbbgichpbjgifaaWNEv
import Derived.Test.YtbbgichpbjgifaaWMore
import Derived.Lib.Strings
import Derived.Lib.Slices
import Derived.Lib.Walk
import Derived.Lib.Bytealg
namespace Go.Proofs.Ytbbgichpbjgifaa.Q
open Go.RowKit Go.Proofs.YtbbgichpbjgifaaW.PrintWords Go.Proofs.YtbbgichpbjgifaaW.PrintLast
set_option linter.unusedVariables false
set_option linter.unusedSimpArgs false
set_option maxRecDepth 100000 in
set_option maxHeartbeats 4000000 in
theorem stringslite_IndexByte.calls (s : ByteArray) (c : Int) (w : World) :
    Calls Try.prog 37 #[.string s, .int .u8 c] w fun e w' => e = .returned (.int .i64 (Lib.indexByte s.data.toList c.toNat.toUInt8)) ∧ w' = w := by
  go_enter Try.func37, Try.ntmps37
  go_wp2
  rw [run_callFunc_extern Try.func44 (by kernel_rfl) (by kernel_rfl) (by kernel_rfl) (e := Extern.BytealgIndexByte.indexByte) (by kernel_rfl), Lib.run_indexByteString]
  simp only [Result.andThen]
  rw [Oper.upon_value]
  go_wp2
  go_ret
  exact ⟨rfl, rfl⟩
set_option maxRecDepth 100000 in
set_option maxHeartbeats 4000000 in
theorem strings_IndexByte.calls (s : ByteArray) (c : Int) (w : World) :
    Calls Try.prog 30 #[.string s, .int .u8 c] w fun e w' => e = .returned (.int .i64 (Lib.indexByte s.data.toList c.toNat.toUInt8)) ∧ w' = w := by
  go_enter Try.func30, Try.ntmps30
  go_wp2_with (go_at_call 37; refine (stringslite_IndexByte.calls _ _ _).mono ?_; rintro e w' ⟨rfl, rfl⟩)
  go_ret
  exact ⟨rfl, rfl⟩
def token_Blank.f (a0 : Int) : Option Bool := if 0 ≤ a0 ∧ a0 ≤ 255 then some (decide (a0 = 32 ∨ (9 ≤ a0 ∧ a0 ≤ 13))) else none
theorem blank_index (c : Int) (h0 : 0 ≤ c) (h1 : c ≤ 255) : decide (Lib.indexByte [9, 10, 11, 12, 13, 32] c.toNat.toUInt8 ≥ 0) = decide (c = 32 ∨ (9 ≤ c ∧ c ≤ 13)) := by
  obtain ⟨n, rfl⟩ : ∃ n : Nat, c = (n : Int) := ⟨c.toNat, by omega⟩
  have hn : n < 256 := by omega
  rw [Int.toNat_natCast]
  clear h0 h1
  revert n
  decide +kernel
set_option maxRecDepth 100000 in
set_option maxHeartbeats 4000000 in
theorem token_Blank.calls (a0 : Int) (r : Bool) (w : World) (h : token_Blank.f a0 = some r) :
    Calls Try.prog 21 #[.int .u8 a0] w fun e w' => e = .returned (.bool r) ∧ Drawn0 w w' := by
  unfold token_Blank.f at h
  split at h
  · rename_i hr
    obtain rfl := Option.some.inj h
    rw [← blank_index a0 hr.1 hr.2]
    clear h hr
    go_enter Try.func21, Try.ntmps21
    go_wp2_with (go_at_call 30; refine (strings_IndexByte.calls _ _ _).mono ?_; rintro e w' ⟨rfl, rfl⟩)
    go_ret
    exact ⟨rfl, Drawn0.refl _⟩
  · simp at h
end Go.Proofs.Ytbbgichpbjgifaa.Q
