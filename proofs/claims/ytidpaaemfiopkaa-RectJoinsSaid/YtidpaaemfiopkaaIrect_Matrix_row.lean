/- A matrix's row: a view into the matrix's own numbers. -/
import Derived.Test.YtidpaaemfiopkaaQ0
import Derived.Below
import Derived.Deep.Draws
import Derived.Deep.AppendLies
import Derived.Maps.AppendAt
import Derived.OwnWalk
import Derived.Laws.BytesArg
import Derived.Laws.MakeOwn
import Derived.Laws.OwnMore
import Derived.Deep.OwnRows
import Derived.Tactics
import Derived.Lib.ConvBytes
import Derived.Laws.Slices
import Derived.WalkKit
import Derived.KernelRfl
import Derived.RowKit3
import Derived.Deep.LoopGhost
import Derived.Deep.QuietTactic
import Derived.BigQuiet
import Derived.WideLaws
import Derived.Deep.DeepCutAuto
import Derived.Deep.CutBlock
import Derived.Deep.RegionHeld3
import Derived.Laws.Rows
import Derived.Lib.AppendStr
import Derived.ArgAppend
import Derived.Laws.IdiomCopy
import Derived.OrdersHeld
import Derived.Laws.BitsLemmas
import Derived.RowKit
import Derived.Test.YtidpaaemfiopkaaMore
import Derived.Test.YtidpaaemfiopkaaPeel
import Derived.Scope
import Derived.Test.YtidpaaemfiopkaaWWords
import Derived.Test.YtidpaaemfiopkaaWLast
import Derived.Test.YtidpaaemfiopkaaWTab
import Derived.Test.YtidpaaemfiopkaaWFour
import Derived.Test.YtidpaaemfiopkaaWQPut
import Derived.Test.YtidpaaemfiopkaaWApart
import Derived.Test.YtidpaaemfiopkaaWArr
import Derived.Test.YtidpaaemfiopkaaWZeros
import Derived.Test.YtidpaaemfiopkaaWFoot
import Derived.Test.YtidpaaemfiopkaaWKept
import Derived.Test.YtidpaaemfiopkaaWShare
import Derived.Test.YtidpaaemfiopkaaWN
import Derived.Test.YtidpaaemfiopkaaWFootNe
import Derived.Test.YtidpaaemfiopkaaWAt
import Derived.Test.YtidpaaemfiopkaaWEqStruct
import Derived.Test.YtidpaaemfiopkaaWRepsOne
import Derived.Test.YtidpaaemfiopkaaWInv
import Derived.Test.YtidpaaemfiopkaaWInvWords
import Derived.Test.YtidpaaemfiopkaaWGuard
import Derived.Test.YtidpaaemfiopkaaWNEv
import Derived.Test.YtidpaaemfiopkaaWMore
namespace Go.Proofs.Ytidpaaemfiopkaa.Q
open Go.RowKit Go.Proofs.YtidpaaemfiopkaaW.PrintWords Go.Proofs.YtidpaaemfiopkaaW.PrintLast
set_option linter.unusedVariables false
set_option linter.unusedSimpArgs false
def rect_Matrix_row.f (a0_0 a0_1 : Int) (l0_2 : List Int) (a1 a2 a3 : Int) : Option (List Int) := if 0 ≤ wrap64 (wrap64 (a2 * a0_0) + a1) then (if wrap64 (wrap64 (a2 * a0_0) + a1) < wrap64 (wrap64 (wrap64 (a2 * a0_0) + a1) + a3) then (if wrap64 (wrap64 (wrap64 (a2 * a0_0) + a1) + a3) ≤ (l0_2.length : Int) then some ((l0_2.take (wrap64 (wrap64 (wrap64 (a2 * a0_0) + a1) + a3)).toNat).drop (wrap64 (wrap64 (a2 * a0_0) + a1)).toNat) else none) else none) else none
set_option maxRecDepth 100000 in
set_option maxHeartbeats 4000000 in
theorem rect_Matrix_row.calls (a0_0 a0_1 : Int) (P0_2_ : Nat → Prop) (A0_2 : Option Addr) (c0_2 : Nat) (l0_2 : List Int) (a1 a2 a3 : Int) (r : List Int) (w : World) (hs0_2 : Kd.V (Kd.int .u64) 46 w w.heap.size (fun k_ => P0_2_ k_) (.slice A0_2 l0_2.length c0_2) l0_2) (h : rect_Matrix_row.f a0_0 a0_1 l0_2 a1 a2 a3 = some r) :
    Calls Try.prog 46 #[.agg #[.int .i64 a0_0, .int .i64 a0_1, .slice A0_2 l0_2.length c0_2], .int .i64 a1, .int .i64 a2, .int .i64 a3] w fun e w' => ∃ v0_ : Value, e = .returned (v0_) ∧ Kd.V (Kd.int .u64) 46 w' w.heap.size (fun k_ => (P0_2_ k_ ∨ w.heap.size ≤ k_)) v0_ r ∧ Below w.heap.size w w' := by
  unfold rect_Matrix_row.f at h
  have hu := Try.underlying32
  generalize hat : wrap64 (wrap64 (a2 * a0_0) + a1) = at_ at *
  generalize hhi : wrap64 (at_ + a3) = hi_ at *
  split at h
  · rename_i h1
    split at h
    · rename_i h2
      split at h
      · rename_i h3
        obtain rfl := Option.some.inj h
        clear h
        obtain ⟨lo, rfl⟩ : ∃ n : Nat, at_ = (n : Int) := ⟨at_.toNat, by omega⟩
        obtain ⟨hi, rfl⟩ : ∃ n : Nat, hi_ = (n : Int) := ⟨hi_.toNat, by omega⟩
        obtain ⟨_, hlc, hF⟩ := Kd.V_at hs0_2
        have hmid := Aside0.mk (Kd.F_mid (lo := lo) (hi := hi) hF (by omega) (by omega) hlc)
        have hlen : ((l0_2.take hi).drop lo).length = hi - lo := by simp; omega
        rw [Int.toNat_natCast, Int.toNat_natCast]
        clear hs0_2 hF
        go_enter Try.func46, Try.ntmps46
        go_wp2
        go_ret
        have hm := hmid.out
        rw [if_neg (by omega)] at hm
        have hm2 : Kd.F (Kd.int .u64) w (fun k_ => P0_2_ k_) (A0_2.map (fun x => x.add lo)) ((l0_2.take hi).drop lo).length ((l0_2.take hi).drop lo) := by
          have e : (fun x : Addr => x.add (lo * (Kd.int .u64).sz)) = fun x => x.add lo := by funext x; show x.add (lo * 1) = x.add lo; rw [Nat.mul_one]
          rw [e] at hm
          exact hm
        exact ⟨_, rfl, ⟨A0_2.map (fun x => x.add lo), hi - lo, congrArg (fun n_ => Value.slice (A0_2.map (fun x => x.add lo)) n_ (hi - lo)) hlen.symm, by omega, Kd.F_mono (Kd.F_alloc hm2 _) (fun k hk => .inl hk)⟩, below_alloc (Below.refl _ _) _⟩
      · simp at h
    · simp at h
  · simp at h
end Go.Proofs.Ytidpaaemfiopkaa.Q
