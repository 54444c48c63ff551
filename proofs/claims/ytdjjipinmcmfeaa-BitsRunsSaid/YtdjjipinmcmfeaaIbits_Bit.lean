/- bits.Bit: a bit of bytes, and whether it is there, for all bytes and numbers. -/
import Derived.Test.YtdjjipinmcmfeaaQ0
import Derived.Below
import Derived.Deep.Draws
import Derived.Deep.AppendLies
import Derived.Maps.AppendAt
import Derived.OwnWalk
import Derived.Laws.BytesArg
import Derived.Laws.MakeOwn
import Derived.Laws.OwnMore
import Derived.Deep.OwnRows
import Derived.Tactics
import Derived.Lib.ConvBytes
import Derived.Laws.Slices
import Derived.WalkKit
import Derived.KernelRfl
import Derived.RowKit3
import Derived.Deep.LoopGhost
import Derived.Deep.QuietTactic
import Derived.BigQuiet
import Derived.WideLaws
import Derived.Deep.DeepCutAuto
import Derived.Deep.CutBlock
import Derived.Deep.RegionHeld3
import Derived.Laws.Rows
import Derived.Lib.AppendStr
import Derived.ArgAppend
import Derived.Laws.IdiomCopy
import Derived.OrdersHeld
import Derived.Laws.BitsLemmas
import Derived.RowKit
import Derived.Test.YtdjjipinmcmfeaaMore
import Derived.Test.YtdjjipinmcmfeaaWWords
import Derived.Test.YtdjjipinmcmfeaaWLast
import Derived.Test.YtdjjipinmcmfeaaWTab
import Derived.Test.YtdjjipinmcmfeaaWFour
import Derived.Test.YtdjjipinmcmfeaaWQPut
import Derived.Test.YtdjjipinmcmfeaaWApart
import Derived.Test.YtdjjipinmcmfeaaWArr
import Derived.Test.YtdjjipinmcmfeaaWZeros
import Derived.Test.YtdjjipinmcmfeaaWFoot
import Derived.Test.YtdjjipinmcmfeaaWKept
import Derived.Test.YtdjjipinmcmfeaaWShare
import Derived.Test.YtdjjipinmcmfeaaWN
import Derived.Test.YtdjjipinmcmfeaaWFootNe
import Derived.Test.YtdjjipinmcmfeaaWAt
import Derived.Test.YtdjjipinmcmfeaaWEqStruct
import Derived.Test.YtdjjipinmcmfeaaWRepsOne
import Derived.Test.YtdjjipinmcmfeaaWInv
import Derived.Test.YtdjjipinmcmfeaaWInvWords
import Derived.Test.YtdjjipinmcmfeaaWGuard
import Derived.Test.YtdjjipinmcmfeaaWNEv
import Derived.Test.YtdjjipinmcmfeaaWMore
import Derived.Test.YtdjjipinmcmfeaaBits
namespace Go.Proofs.Ytdjjipinmcmfeaa.Q
open Go.RowKit Go.Shelf Go.Proofs.YtdjjipinmcmfeaaW.PrintWords Go.Proofs.YtdjjipinmcmfeaaW.PrintLast Go.Proofs.Ytdjjipinmcmfeaa.Rg Go.Proofs.Ytdjjipinmcmfeaa.Bt
attribute [local go_sem] Oper.semAt_some
set_option linter.unusedVariables false
set_option linter.unusedSimpArgs false

def bits_ok (l : List Int) : Bool := l.all fun x => decide (0 ≤ x) && decide (x ≤ 255)
theorem bits_ok_of {l : List Int} (h : bits_ok l = true) : ∀ x ∈ l, 0 ≤ x ∧ x ≤ 255 := by
  intro x hx
  have := List.all_eq_true.1 h x hx
  simpa using this
def bits_Bit.f (l0 : List Int) (a1 : Int) : Option (Int × Bool) :=
  if a1 < 0 then some (0, false) else if 9223372036854775807 < a1 then none else if (l0.length : Int) ≤ a1 / 8 then some (0, false) else if bits_ok l0 = true then some (bitB (l0.getD (a1 / 8).toNat 0) (a1 % 8).toNat, true) else none

set_option maxRecDepth 100000 in
set_option maxHeartbeats 4000000 in
theorem bits_Bit.calls (A0 : Option Addr) (c0 : Nat) (l0 : List Int) (a1 : Int) (r1 : Int) (r2 : Bool) (w : World) (hr0 : Kd.C (Kd.int .u8) w A0 l0.length l0) (hc0 : l0.length ≤ c0) (h : bits_Bit.f l0 a1 = some (r1, r2)) :
    Calls Try.prog 9 #[.slice A0 l0.length c0, .int .i64 a1] w fun e w' => e = .returned (.tuple #[.int .i64 r1, .bool r2]) ∧ Below w.heap.size w w' := by
  unfold bits_Bit.f at h
  have hm := Kd.C_max hr0
  by_cases h0 : a1 < 0
  · rw [if_pos h0] at h
    simp only [Option.some.injEq, Prod.mk.injEq] at h
    obtain ⟨rfl, rfl⟩ := h
    have hq : decide (a1 < 0) = true := decide_eq_true h0
    go_enter Try.func9, Try.ntmps9
    go_wp2
    go_ret2
    exact ⟨rfl, Below.refl _ _⟩
  · rw [if_neg h0] at h
    by_cases hbig : 9223372036854775807 < a1
    · rw [if_pos hbig] at h; simp at h
    rw [if_neg hbig] at h
    have hq : decide (a1 < 0) = false := decide_eq_false h0
    have hw : IntKind.i64.wrap (Int.tdiv a1 8) = a1 / 8 := by rw [Int.tdiv_eq_ediv_of_nonneg (by omega)]; exact IntWalk.i64_in _ ⟨by omega, by omega⟩
    have hw' : wrap64 (Int.tdiv a1 8) = a1 / 8 := by rw [Int.tdiv_eq_ediv_of_nonneg (by omega)]; exact IntWalk.wrap64_in _ ⟨by omega, by omega⟩
    have ht : Int.tmod a1 8 = a1 % 8 := Int.tmod_eq_emod_of_nonneg (by omega)
    have hq8 : 0 ≤ a1 / 8 := by omega
    have hm8 : 0 ≤ a1 % 8 ∧ a1 % 8 < 8 := by omega
    generalize a1 / 8 = q at *
    generalize a1 % 8 = m at *
    obtain ⟨u, rfl⟩ := Int.eq_ofNat_of_zero_le hq8
    obtain ⟨v, rfl⟩ := Int.eq_ofNat_of_zero_le hm8.1
    rw [Int.toNat_natCast, Int.toNat_natCast] at h
    by_cases h1 : (l0.length : Int) ≤ (u : Int)
    · rw [if_pos h1] at h
      simp only [Option.some.injEq, Prod.mk.injEq] at h
      obtain ⟨rfl, rfl⟩ := h
      have hq1 : decide ((l0.length : Int) ≤ (u : Int)) = true := decide_eq_true h1
      go_enter Try.func9, Try.ntmps9
      go_wp2
      go_ret2
      exact ⟨rfl, Below.refl _ _⟩
    · rw [if_neg h1] at h
      split at h
      · rename_i hok
        simp only [Option.some.injEq, Prod.mk.injEq] at h
        obtain ⟨rfl, rfl⟩ := h
        have hq1 : decide ((l0.length : Int) ≤ (u : Int)) = false := decide_eq_false h1
        have hlt : u < l0.length := by omega
        obtain ⟨b0, b1⟩ := bits_ok_of hok (l0.getD u 0) (by rw [List.getD_eq_getElem?_getD, List.getElem?_eq_getElem hlt]; exact List.getElem_mem hlt)
        obtain ⟨_, _, hrd⟩ := Kd.reads_of_C (d := (0 : Int)) hr0
        obtain ⟨ad, hA, hc⟩ := hrd (by omega)
        have hcc := hc u hlt
        subst hA
        clear hc hrd hr0
        generalize l0.getD u 0 = x at *
        have hidx := index_byte x v (by omega)
        have hle : (u : Int) < (l0.length : Int) := by omega
        go_enter Try.func9, Try.ntmps9
        go_wp2_with (go_at_call 29; refine ((callsIn_wide (n := 3)).1 (eighth_in Fence.wide 3 trivial rfl x b0 b1 _)).mono ?_; rintro e w' ⟨rfl, hB⟩)
        go_ret2
        exact ⟨rfl, hB⟩
      · simp at h
end Go.Proofs.Ytdjjipinmcmfeaa.Q
