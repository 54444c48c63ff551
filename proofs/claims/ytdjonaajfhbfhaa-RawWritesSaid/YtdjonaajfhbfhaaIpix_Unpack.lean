/- pix.Unpack: a pixel's samples, a view into an array of the call's own, for every number. -/
import Derived.Test.YtdjonaajfhbfhaaQ0
import Derived.Below
import Derived.Deep.Draws
import Derived.Deep.AppendLies
import Derived.Maps.AppendAt
import Derived.OwnWalk
import Derived.Laws.BytesArg
import Derived.Laws.MakeOwn
import Derived.Laws.OwnMore
import Derived.Deep.OwnRows
import Derived.Tactics
import Derived.Lib.ConvBytes
import Derived.Laws.Slices
import Derived.WalkKit
import Derived.KernelRfl
import Derived.RowKit3
import Derived.Deep.LoopGhost
import Derived.Deep.QuietTactic
import Derived.BigQuiet
import Derived.WideLaws
import Derived.Deep.DeepCutAuto
import Derived.Deep.CutBlock
import Derived.Deep.RegionHeld3
import Derived.Laws.Rows
import Derived.Lib.AppendStr
import Derived.ArgAppend
import Derived.Laws.IdiomCopy
import Derived.OrdersHeld
import Derived.Laws.BitsLemmas
import Derived.RowKit
import Derived.Test.YtdjonaajfhbfhaaMore
import Derived.Test.YtdjonaajfhbfhaaPeel
import Derived.Test.YtdjonaajfhbfhaaRaw
import Derived.Scope
import Derived.Test.YtdjonaajfhbfhaaWWords
import Derived.Test.YtdjonaajfhbfhaaWLast
import Derived.Test.YtdjonaajfhbfhaaWTab
import Derived.Test.YtdjonaajfhbfhaaWQPut
import Derived.Test.YtdjonaajfhbfhaaWApart
import Derived.Test.YtdjonaajfhbfhaaWArr
import Derived.Test.YtdjonaajfhbfhaaWZeros
import Derived.Test.YtdjonaajfhbfhaaWFoot
import Derived.Test.YtdjonaajfhbfhaaWKept
import Derived.Test.YtdjonaajfhbfhaaWShare
import Derived.Test.YtdjonaajfhbfhaaWN
import Derived.Test.YtdjonaajfhbfhaaWFootNe
import Derived.Test.YtdjonaajfhbfhaaWAt
import Derived.Test.YtdjonaajfhbfhaaWGuard
import Derived.Test.YtdjonaajfhbfhaaWNEv
import Derived.Test.YtdjonaajfhbfhaaWMore
import Derived.Laws.BitsLemmas
import Derived.Lib.Hide
namespace Go.Proofs.Ytdjonaajfhbfhaa.Q
open Go.RowKit Go.Proofs.YtdjonaajfhbfhaaW.PrintWords Go.Proofs.YtdjonaajfhbfhaaW.PrintLast
set_option linter.unusedVariables false
set_option linter.unusedSimpArgs false

/-- A pixel's samples. -/
def pixL (p : Int) : List Int := if p / 281474976710656 = 3 then [p / 4294967296 % 65536, p / 65536 % 65536, p % 65536] else if p / 281474976710656 = 1 ∧ p / 4294967296 % 65536 = 0 ∧ p / 65536 % 65536 = 0 then [p % 65536] else []
def pix_Unpack.f (a0 : Int) : Option (List Int) := if 0 ≤ a0 ∧ a0 ≤ 18446744073709551615 then some (pixL a0) else none

theorem u64_64 (n : Int) (h0 : 0 ≤ n) (h1 : n < 2 ^ 64) : IntKind.u64.wrap n = n := by
  simp [IntKind.wrap, IntKind.bits, IntKind.signed]
  omega
theorem u64_mask16 (x : Int) (h0 : 0 ≤ x) (h1 : x ≤ 18446744073709551615) : Go.bits .and .u64 x 65535 = x % 65536 := bits_mask .u64 64 (by decide) u64_64 16 (by decide) x h0 (by omega)
/-- The value that is handed back: nil, or a view. -/
def pixV (g : Nat) (p : Int) : Value := if p / 281474976710656 = 3 then .slice (some ⟨g, 0, none⟩) 3 3 else if p / 281474976710656 = 1 ∧ p / 4294967296 % 65536 = 0 ∧ p / 65536 % 65536 = 0 then .slice (some ⟨g, 2, none⟩) 1 1 else .slice none 0 0
def pixC (p : Int) : Array Value := #[.int .i64 (p / 4294967296 % 65536), .int .i64 (p / 65536 % 65536), .int .i64 (p % 65536)]

set_option maxRecDepth 100000 in
set_option maxHeartbeats 4000000 in
theorem pix_Unpack.is (p : Int) (h0 : 0 ≤ p) (h1 : p ≤ 18446744073709551615) (w : World) :
    Calls Try.prog 36 #[.int .u64 p] w fun e w' => e = .returned (pixV w.heap.size p) ∧ w' = w.alloc (.cells (pixC p) 84) := by
  have m1 := u64_mask16 (p / 4294967296) (by omega) (by omega)
  have m2 := u64_mask16 (p / 65536) (by omega) (by omega)
  have m3 := u64_mask16 p h0 h1
  unfold pixV pixC
  have r1 : 0 ≤ p / 4294967296 % 65536 ∧ p / 4294967296 % 65536 ≤ 65535 := by omega
  have r2 : 0 ≤ p / 65536 % 65536 ∧ p / 65536 % 65536 ≤ 65535 := by omega
  have r3 : 0 ≤ p % 65536 ∧ p % 65536 ≤ 65535 := by omega
  generalize p / 4294967296 % 65536 = a at *
  generalize p / 65536 % 65536 = b at *
  generalize p % 65536 = c at *
  by_cases h3 : p / 281474976710656 = 3
  · rw [if_pos h3]
    have q3 : (p / 281474976710656 == 3) = true := beq_iff_eq.2 h3
    clear h3
    go_enter Try.func36, Try.ntmps36
    go_wp2
    go_ret
    exact ⟨rfl, rfl⟩
  · rw [if_neg h3]
    have q3 : (p / 281474976710656 == 3) = false := beq_eq_false_iff_ne.2 h3
    by_cases h4 : p / 281474976710656 = 1 ∧ a = 0 ∧ b = 0
    · rw [if_pos h4]
      obtain ⟨h4, rfl, rfl⟩ := h4
      have q4 : (p / 281474976710656 == 1) = true := beq_iff_eq.2 h4
      clear h3 h4
      go_enter Try.func36, Try.ntmps36
      go_wp2
      go_ret
      exact ⟨rfl, rfl⟩
    · rw [if_neg h4]
      by_cases h5 : p / 281474976710656 = 1
      · have q4 : (p / 281474976710656 == 1) = true := beq_iff_eq.2 h5
        by_cases h6 : a = 0
        · subst h6
          have q6 : (b == 0) = false := beq_eq_false_iff_ne.2 (fun e => h4 ⟨h5, rfl, e⟩)
          clear h3 h4 h5
          go_enter Try.func36, Try.ntmps36
          go_wp2
          go_ret
          exact ⟨rfl, rfl⟩
        · have q6 : (a == 0) = false := beq_eq_false_iff_ne.2 h6
          clear h3 h4 h5
          go_enter Try.func36, Try.ntmps36
          go_wp2
          go_ret
          exact ⟨rfl, rfl⟩
      · have q4 : (p / 281474976710656 == 1) = false := beq_eq_false_iff_ne.2 h5
        clear h3 h4 h5
        go_enter Try.func36, Try.ntmps36
        go_wp2
        go_ret
        exact ⟨rfl, rfl⟩
theorem pix_Unpack.calls (a0 : Int) (r : List Int) (w : World) (h : pix_Unpack.f a0 = some r) :
    Calls Try.prog 36 #[.int .u64 a0] w fun e w' => ∃ v0_ : Value, e = .returned (v0_) ∧ Kd.V (Kd.int .i64) 3 w' w.heap.size (fun k_ => (w.heap.size ≤ k_)) v0_ r ∧ Below w.heap.size w w' := by
  unfold pix_Unpack.f at h
  split at h
  · rename_i hr
    obtain rfl := Option.some.inj h
    refine (pix_Unpack.is a0 hr.1 hr.2 w).mono ?_
    rintro e w' ⟨rfl, rfl⟩
    refine ⟨_, rfl, ?_, below_alloc (Below.refl _ _) _⟩
    have hget : (w.alloc (.cells (pixC a0) 84)).heap[w.heap.size]? = some (.cells (pixC a0) 84 (0, 0)) := heap_alloc_new w _
    have cell : ∀ (W' : World) (o : Nat) (v : Value), (∀ k, w.heap.size ≤ k → k < (w.alloc (.cells (pixC a0) 84)).heap.size → W'.heap[k]? = (w.alloc (.cells (pixC a0) 84)).heap[k]?) → (pixC a0)[o]? = some v → W'.cell? ⟨w.heap.size, o, none⟩ = some v := by
      intro W' o v hW hv
      have : W'.heap[w.heap.size]? = some (.cells (pixC a0) 84 (0, 0)) := (hW _ (Nat.le_refl _) (by rw [World.size_alloc]; omega)).trans hget
      simp [World.cell?, this, hv]
    unfold pixV pixL
    by_cases h3 : a0 / 281474976710656 = 3
    · rw [if_pos h3, if_pos h3]
      refine ⟨_, _, rfl, Nat.le_refl _, fun W' hW => Kd.C_of_reads (d := (0 : Int)) ⟨rfl, by simp, fun _ => ⟨_, rfl, fun j hj => ?_⟩⟩⟩
      have hj3 : j = 0 ∨ j = 1 ∨ j = 2 := by simp at hj; omega
      rcases hj3 with rfl | rfl | rfl <;> exact cell W' _ _ hW rfl
    · rw [if_neg h3, if_neg h3]
      by_cases h4 : a0 / 281474976710656 = 1 ∧ a0 / 4294967296 % 65536 = 0 ∧ a0 / 65536 % 65536 = 0
      · rw [if_pos h4, if_pos h4]
        refine ⟨_, _, rfl, Nat.le_refl _, fun W' hW => Kd.C_of_reads (d := (0 : Int)) ⟨rfl, by simp, fun _ => ⟨_, rfl, fun j hj => ?_⟩⟩⟩
        obtain rfl : j = 0 := by simp at hj; omega
        exact cell W' _ _ hW rfl
      · rw [if_neg h4, if_neg h4]
        exact ⟨_, _, rfl, Nat.le_refl _, fun W' hW => Kd.C_nil _ _⟩
  · simp at h
end Go.Proofs.Ytdjonaajfhbfhaa.Q
