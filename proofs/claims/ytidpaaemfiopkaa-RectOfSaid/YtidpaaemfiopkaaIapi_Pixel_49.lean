/- slices.Clone: a row of the call's own with the same elements, for every slice. -/
import Derived.Test.YtidpaaemfiopkaaQ0
import Derived.Below
import Derived.Deep.Draws
import Derived.Deep.AppendLies
import Derived.Maps.AppendAt
import Derived.OwnWalk
import Derived.Laws.BytesArg
import Derived.Laws.MakeOwn
import Derived.Laws.OwnMore
import Derived.Deep.OwnRows
import Derived.Tactics
import Derived.Lib.ConvBytes
import Derived.Laws.Slices
import Derived.WalkKit
import Derived.KernelRfl
import Derived.RowKit3
import Derived.Deep.LoopGhost
import Derived.Deep.QuietTactic
import Derived.BigQuiet
import Derived.WideLaws
import Derived.Deep.DeepCutAuto
import Derived.Deep.CutBlock
import Derived.Deep.RegionHeld3
import Derived.Laws.Rows
import Derived.Lib.AppendStr
import Derived.ArgAppend
import Derived.Laws.IdiomCopy
import Derived.OrdersHeld
import Derived.Laws.BitsLemmas
import Derived.RowKit
import Derived.Test.YtidpaaemfiopkaaMore
import Derived.Test.YtidpaaemfiopkaaPeel
import Derived.Scope
import Derived.Test.YtidpaaemfiopkaaWWords
import Derived.Test.YtidpaaemfiopkaaWLast
import Derived.Test.YtidpaaemfiopkaaWTab
import Derived.Test.YtidpaaemfiopkaaWFour
import Derived.Test.YtidpaaemfiopkaaWQPut
import Derived.Test.YtidpaaemfiopkaaWApart
import Derived.Test.YtidpaaemfiopkaaWArr
import Derived.Test.YtidpaaemfiopkaaWZeros
import Derived.Test.YtidpaaemfiopkaaWFoot
import Derived.Test.YtidpaaemfiopkaaWKept
import Derived.Test.YtidpaaemfiopkaaWShare
import Derived.Test.YtidpaaemfiopkaaWN
import Derived.Test.YtidpaaemfiopkaaWFootNe
import Derived.Test.YtidpaaemfiopkaaWAt
import Derived.Test.YtidpaaemfiopkaaWEqStruct
import Derived.Test.YtidpaaemfiopkaaWRepsOne
import Derived.Test.YtidpaaemfiopkaaWInv
import Derived.Test.YtidpaaemfiopkaaWInvWords
import Derived.Test.YtidpaaemfiopkaaWGuard
import Derived.Test.YtidpaaemfiopkaaWNEv
import Derived.Test.YtidpaaemfiopkaaWMore
import Derived.WalkSpells
namespace Go.Proofs.Ytidpaaemfiopkaa.Q
open Go.RowKit Go.Proofs.YtidpaaemfiopkaaW.PrintWords Go.Proofs.YtidpaaemfiopkaaW.PrintLast
set_option linter.unusedVariables false
set_option linter.unusedSimpArgs false
def api_Pixel_49.f (l0 : List Int) : Option (List Int) := if l0.length * 8 ≤ 140737488355328 then some l0 else none
theorem api_Pixel_49.info : (Try.prog.info? 46).map (fun i => (i.zero, i.size, i.bytes)) = some (some (.int .u64 0), 1, 8) := by kernel_rfl
set_option maxRecDepth 100000 in
set_option maxHeartbeats 4000000 in
theorem api_Pixel_49.calls (A0 : Option Addr) (c0 : Nat) (l0 : List Int) (r : List Int) (w : World) (hr0 : Kd.C (Kd.int .u64) w A0 l0.length l0) (hc0 : l0.length ≤ c0) (h : api_Pixel_49.f l0 = some r) :
    Calls Try.prog 49 #[.slice A0 l0.length c0] w fun e w' => ∃ v0_ : Value, e = .returned (v0_) ∧ Kd.R (Kd.int .u64) 46 w' w.heap.size (fun _ => True) v0_ r ∧ Below w.heap.size w w' := by
  unfold api_Pixel_49.f at h
  split at h
  · rename_i hl
    obtain rfl := Option.some.inj h
    clear h
    have hn : ∀ (W : World) (a : Option Addr) (n c : Nat), (binOp .eql 22 (.slice a n c) (.slice none 0 0)).run Try.prog W = .ok (.bool a.isNone) W := fun W a n c => Lib.run_eql_slice_nil W _ _ a n c 0 0 Try.underlying22
    cases A0 with
    | none =>
      have : l0 = [] := by
        obtain ⟨_, _, h⟩ := hr0
        cases l0 with
        | nil => rfl
        | cons x r =>
          obtain ⟨a, ha, _⟩ := h (by simp)
          cases ha
      subst this
      go_enter Try.func49, Try.ntmps49
      go_wp2
      go_ret
      exact ⟨_, rfl, Kd.R_nil _ _ _ _ _, Below.refl _ _⟩
    | some ad =>
      have hE : Kd.R (Kd.int .u64) 46 (w.alloc (.cells #[] 46)) w.heap.size (fun _ => True) (.slice (some ⟨w.heap.size, 0, none⟩) 0 0) [] := ⟨fun k hk => trivial, [], by have h2 := World.ownsRow_lit (base := w.heap.size) (e := 46) (size := 1) w #[] 0 (Nat.le_refl _) (by simp [maxLen]) (by simp); have h3 : (w.alloc (.cells #[] 46)).ownsRow w.heap.size 46 1 (.slice (some ⟨w.heap.size, 0, none⟩) 0 0) 0 [] := (by simpa using h2); exact h3, ⟨by simp, fun j p hj => by simp at hj⟩⟩
      have hC : Kd.C (Kd.int .u64) (w.alloc (.cells #[] 46)) (some ad) l0.length l0 := Kd.C_alloc hr0 _
      have HE := Aside0.mk hE
      have HC := Aside0.mk hC
      have HL := Aside0.mk hl
      clear hr0 hl hE hC
      go_enter Try.func49, Try.ntmps49
      go_wp2_with ((with_reducible refine gate_builtin (b := .append) (xs := #[.tmp 5, .tmp 6]) rfl ?_); at_builtin; refine Kd.R_append_rows (Kd.int .u64) (w0 := w) w.heap.size rfl (.tmp 5) (.tmp 6) 22 46 (.int .u64 0) 8 rfl Try.underlying22 api_Pixel_49.info rfl (by decide) (by omega) (.slice (some ⟨w.heap.size, 0, none⟩) 0 0) [] l0 _ _ _ (fun _ => True) (fun _ => False) rfl rfl ?aO ?aR (fun _ _ h => h) (fun _ h => h.elim) ?aF ?aB ?aS ?aL ?_; (case aO => exact HE.out); (case aR => exact HC.out); (case aF => exact fun _ _ => trivial); (case aB => exact below_alloc (Below.refl _ _) _); (case aS => rw [World.size_alloc]; omega); (case aL => have := HL.out; simp only [List.length_nil, Nat.zero_add]; exact this); intro v1 w1 ho hb hg hat; have HO := Aside0.mk ho; have HB := Aside0.mk hb; clear ho hb hg hat)
      go_ret
      exact ⟨_, rfl, HO.out, HB.out⟩
  · simp at h
end Go.Proofs.Ytidpaaemfiopkaa.Q
