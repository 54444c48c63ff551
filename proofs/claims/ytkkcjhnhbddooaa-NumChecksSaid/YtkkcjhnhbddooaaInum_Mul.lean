/- num.Mul: a number times another one, or told as none, for every two numbers. -/
import Derived.Test.YtkkcjhnhbddooaaQ0
import Derived.Test.YtkkcjhnhbddooaaQ8
import Derived.Below
import Derived.Deep.Draws
import Derived.Deep.AppendLies
import Derived.Maps.AppendAt
import Derived.OwnWalk
import Derived.Laws.BytesArg
import Derived.Laws.MakeOwn
import Derived.Laws.OwnMore
import Derived.Deep.OwnRows
import Derived.Tactics
import Derived.Lib.ConvBytes
import Derived.Laws.Slices
import Derived.WalkKit
import Derived.KernelRfl
import Derived.RowKit3
import Derived.Deep.LoopGhost
import Derived.Deep.QuietTactic
import Derived.BigQuiet
import Derived.WideLaws
import Derived.Deep.DeepCutAuto
import Derived.Deep.CutBlock
import Derived.Deep.RegionHeld3
import Derived.Laws.Rows
import Derived.Lib.AppendStr
import Derived.ArgAppend
import Derived.Laws.IdiomCopy
import Derived.OrdersHeld
import Derived.Laws.BitsLemmas
import Derived.RowKit
import Derived.Test.YtkkcjhnhbddooaaMore
import Derived.Test.YtkkcjhnhbddooaaWWords
import Derived.Test.YtkkcjhnhbddooaaWLast
import Derived.Test.YtkkcjhnhbddooaaWTab
import Derived.Test.YtkkcjhnhbddooaaWFour
import Derived.Test.YtkkcjhnhbddooaaWQPut
import Derived.Test.YtkkcjhnhbddooaaWApart
import Derived.Test.YtkkcjhnhbddooaaWArr
import Derived.Test.YtkkcjhnhbddooaaWZeros
import Derived.Test.YtkkcjhnhbddooaaWFoot
import Derived.Test.YtkkcjhnhbddooaaWKept
import Derived.Test.YtkkcjhnhbddooaaWShare
import Derived.Test.YtkkcjhnhbddooaaWN
import Derived.Test.YtkkcjhnhbddooaaWFootNe
import Derived.Test.YtkkcjhnhbddooaaWAt
import Derived.Test.YtkkcjhnhbddooaaWEqStruct
import Derived.Test.YtkkcjhnhbddooaaWRepsOne
import Derived.Test.YtkkcjhnhbddooaaWInv
import Derived.Test.YtkkcjhnhbddooaaWInvWords
import Derived.Test.YtkkcjhnhbddooaaWGuard
import Derived.Test.YtkkcjhnhbddooaaWNEv
import Derived.Test.YtkkcjhnhbddooaaWMore
import Derived.Shelf.Bits.Mul64
import Derived.Lib.Hide
namespace Go.Proofs.Ytkkcjhnhbddooaa.Q
open Go.RowKit Go.Shelf Go.Proofs.YtkkcjhnhbddooaaW.PrintWords Go.Proofs.YtkkcjhnhbddooaaW.PrintLast
set_option linter.unusedVariables false
set_option linter.unusedSimpArgs false

def num_fits (n : Int) : Prop := -9223372036854775808 ≤ n ∧ n ≤ 9223372036854775807
instance (n : Int) : Decidable (num_fits n) := by unfold num_fits; infer_instance
def num_Mul.f (a0 a1 : Int) : Option (Int × Bool) := if num_fits a0 ∧ num_fits a1 then (if num_fits (a0 * a1) then some (a0 * a1, true) else some (0, false)) else none

theorem bits_Mul64.is (x y : Nat) (hx : x < 18446744073709551616) (hy : y < 18446744073709551616) :
    bits_Mul64.f (x : Int) (y : Int) = some (((x * y / 18446744073709551616 : Nat) : Int), ((x * y % 18446744073709551616 : Nat) : Int)) := by
  obtain ⟨bd, bt, bw, hhi⟩ := Lib.mul64_hi x y hx hy
  have ba := Lib.half_mul_le (a := x / 4294967296) (b := y / 4294967296) (by omega) (by omega)
  have bb := Lib.half_mul_le (a := x / 4294967296) (b := y % 4294967296) (by omega) (by omega)
  have bc := Lib.half_mul_le (a := x % 4294967296) (b := y / 4294967296) (by omega) (by omega)
  have ba' : x / 4294967296 * (y / 4294967296) < 18446744073709551616 := by omega
  have bb' : x / 4294967296 * (y % 4294967296) < 18446744073709551616 := by omega
  have bc' : x % 4294967296 * (y / 4294967296) < 18446744073709551616 := by omega
  have bh1 : x / 4294967296 * (y / 4294967296) + (x / 4294967296 * (y % 4294967296) + x % 4294967296 * (y % 4294967296) / 4294967296) / 4294967296 < 18446744073709551616 := by omega
  have bh : x / 4294967296 * (y / 4294967296) + (x / 4294967296 * (y % 4294967296) + x % 4294967296 * (y % 4294967296) / 4294967296) / 4294967296 + ((x / 4294967296 * (y % 4294967296) + x % 4294967296 * (y % 4294967296) / 4294967296) % 4294967296 + x % 4294967296 * (y / 4294967296)) / 4294967296 < 18446744073709551616 := by omega
  unfold bits_Mul64.f
  simp only [Mul64.maskN x hx, Mul64.maskN y hy, Mul64.divN, Mul64.mulN, Mul64.addN, Mul64.wrapN _ bd, Mul64.wrapN _ bb', Mul64.wrapN _ bt, Mul64.maskN _ bt, Mul64.wrapN _ bc', Mul64.wrapN _ bw, Mul64.wrapN _ ba', Mul64.wrapN _ bh1, Mul64.wrapN _ bh, Mul64.wrapM (x * y)]
  rw [hhi]

theorem num_size (n : Int) (h : num_fits n) (w : World) : Calls Try.prog 30 #[.int .i64 n] w fun e w' => e = .returned (.int .u64 (n.natAbs : Int)) ∧ w = w' := by
  obtain ⟨h0, h1⟩ := h
  by_cases hn : n < 0
  · have hc : decide (n < 0) = true := decide_eq_true hn
    have hu : IntKind.u64.wrap (-IntKind.u64.wrap n) = (n.natAbs : Int) := by
      simp [IntKind.wrap, IntKind.bits, IntKind.signed]
      omega
    clear h0 h1 hn
    go_enter Try.func30, Try.ntmps30
    go_wp2
    go_ret
    exact ⟨rfl, rfl⟩
  · have hc : decide (n < 0) = false := decide_eq_false hn
    have hu : (n.natAbs : Int) = n := by omega
    rw [hu]
    clear hu
    go_enter Try.func30, Try.ntmps30
    go_wp2
    go_ret
    exact ⟨rfl, rfl⟩

set_option maxRecDepth 100000 in
set_option maxHeartbeats 16000000 in
theorem num_Mul.calls (a0 : Int) (a1 : Int) (r1 : Int) (r2 : Bool) (w : World) (h : num_Mul.f a0 a1 = some (r1, r2)) :
    Calls Try.prog 24 #[.int .i64 a0, .int .i64 a1] w fun e w' => e = .returned (.tuple #[.int .i64 r1, .bool r2]) ∧ Drawn0 w w' := by
  unfold num_Mul.f at h
  split at h
  case isFalse => cases h
  rename_i hf
  obtain ⟨f0, f1⟩ := hf
  obtain ⟨b0, b0'⟩ := f0
  obtain ⟨b1, b1'⟩ := f1
  have hm := bits_Mul64.is a0.natAbs a1.natAbs (by omega) (by omega)
  have hp : a0 * a1 = if (decide (a0 < 0) != decide (a1 < 0)) = true then -((a0.natAbs * a1.natAbs : Nat) : Int) else ((a0.natAbs * a1.natAbs : Nat) : Int) := by
    rw [← Int.natAbs_mul]
    by_cases h1 : a0 < 0 <;> by_cases h2 : a1 < 0 <;> simp [h1, h2]
    · have := Int.mul_pos_of_neg_of_neg h1 h2; omega
    · have := Int.mul_nonpos_of_nonpos_of_nonneg (Int.le_of_lt h1) (Int.not_lt.1 h2); omega
    · have := Int.mul_nonpos_of_nonneg_of_nonpos (Int.not_lt.1 h1) (Int.le_of_lt h2); omega
    · have := Int.mul_nonneg (Int.not_lt.1 h1) (Int.not_lt.1 h2); omega
  have hx := Lib.hid hm
  clear hm
  generalize hP : a0.natAbs * a1.natAbs = P at hx hp
  clear hP
  have hlo : P % 18446744073709551616 < 18446744073709551616 := Nat.mod_lt _ (by omega)
  have hdm : P = 18446744073709551616 * (P / 18446744073709551616) + P % 18446744073709551616 := (Nat.div_add_mod _ _).symm
  generalize P / 18446744073709551616 = hi at hx hdm
  generalize P % 18446744073709551616 = lo at hx hdm hlo
  have F0 : num_fits a0 := ⟨b0, b0'⟩
  have F1 : num_fits a1 := ⟨b1, b1'⟩
  -- what it comes to
  have hcase : (hi ≠ 0 ∧ r1 = 0 ∧ r2 = false) ∨ (hi = 0 ∧ 9223372036854775808 < lo ∧ r1 = 0 ∧ r2 = false) ∨ (hi = 0 ∧ lo = 9223372036854775808 ∧ (decide (a0 < 0) != decide (a1 < 0)) = false ∧ r1 = 0 ∧ r2 = false) ∨
      (hi = 0 ∧ lo ≤ 9223372036854775808 ∧ (decide (a0 < 0) != decide (a1 < 0)) = true ∧ r1 = -(lo : Int) ∧ r2 = true) ∨ (hi = 0 ∧ lo ≤ 9223372036854775807 ∧ (decide (a0 < 0) != decide (a1 < 0)) = false ∧ r1 = (lo : Int) ∧ r2 = true) := by
    split at h
    · rename_i hr
      obtain ⟨hr0, hr1⟩ := hr
      simp only [Option.some.injEq, Prod.mk.injEq] at h
      obtain ⟨rfl, rfl⟩ := h
      by_cases hs : (decide (a0 < 0) != decide (a1 < 0)) = true
      · rw [if_pos hs] at hp
        refine .inr (.inr (.inr (.inl ⟨by omega, by omega, hs, by omega, rfl⟩)))
      · rw [if_neg hs] at hp
        refine .inr (.inr (.inr (.inr ⟨by omega, by omega, by simpa using hs, by omega, rfl⟩)))
    · rename_i hr
      simp only [Option.some.injEq, Prod.mk.injEq] at h
      obtain ⟨rfl, rfl⟩ := h
      unfold num_fits at hr
      by_cases h0 : hi = 0
      · by_cases hs : (decide (a0 < 0) != decide (a1 < 0)) = true
        · rw [if_pos hs] at hp
          exact .inr (.inl ⟨h0, by omega, rfl, rfl⟩)
        · rw [if_neg hs] at hp
          by_cases h2 : lo = 9223372036854775808
          · exact .inr (.inr (.inl ⟨h0, h2, by simpa using hs, rfl, rfl⟩))
          · exact .inr (.inl ⟨h0, by omega, rfl, rfl⟩)
      · exact .inl ⟨h0, rfl, rfl⟩
  clear hp hdm h b0 b0' b1 b1'
  have hs0 : (0 : Int) ≤ (lo : Int) := by omega
  cases d0 : decide (a0 < 0) <;> cases d1 : decide (a1 < 0) <;> rw [d0, d1] at hcase <;> rcases hcase with ⟨c1, rfl, rfl⟩ | ⟨rfl, c1, rfl, rfl⟩ | ⟨rfl, c1, hs, rfl, rfl⟩ | ⟨rfl, c1, hs, rfl, rfl⟩ | ⟨rfl, c1, hs, rfl, rfl⟩
  all_goals first
  | (cases hs; done)
  | (have hc1 : ((hi : Int) == 0) = false := beq_eq_false_iff_ne.2 (by omega)
     have hc2 : ((hi : Int) != 0) = true := bne_iff_ne.2 (by omega)
     clear c1)
  | (have hc1 : decide (9223372036854775808 < (lo : Int)) = true := decide_eq_true (by omega)
     clear c1)
  | (have hc1 : decide (9223372036854775808 < (lo : Int)) = false := decide_eq_false (by omega)
     have hc2 : decide (9223372036854775807 < (lo : Int)) = false := decide_eq_false (by omega)
     have hneg : IntKind.i64.wrap (IntKind.u64.wrap (-(lo : Int))) = -(lo : Int) := by
       rw [IntKind.wrap_i64, IntKind.wrap_u64]; omega
     clear hs)
  | (have hc1 : decide (9223372036854775808 < (lo : Int)) = false := decide_eq_false (by omega)
     have hc2 : decide (9223372036854775807 < (lo : Int)) = true := decide_eq_true (by omega)
     clear c1 hs)
  | (have hc1 : decide (9223372036854775808 < (lo : Int)) = false := decide_eq_false (by omega)
     have hneg : IntKind.i64.wrap (IntKind.u64.wrap (-(lo : Int))) = -(lo : Int) := by
       rw [IntKind.wrap_i64, IntKind.wrap_u64]; omega
     clear c1 hs)
  all_goals
    go_enter Try.func24, Try.ntmps24
    go_wp2_with fail
    refine (num_size a0 F0 _).mono ?_
    rintro e w' ⟨rfl, rfl⟩
    go_wp2_with fail
    refine (num_size a1 F1 _).mono ?_
    rintro e w' ⟨rfl, rfl⟩
    go_wp2_with fail
    refine (bits_Mul64.calls _ _ _ _ _ hx.out).mono ?_
    rintro e w' ⟨rfl, ⟨nd, rfl⟩⟩
    go_wp2
    go_ret2
    exact ⟨rfl, by repeat (first | exact Drawn0.refl _ | apply Drawn0.step)⟩
end Go.Proofs.Ytkkcjhnhbddooaa.Q
