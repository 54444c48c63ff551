/- num.digits, the iterator over a number's digits, keeps the rest in a variable of its own: what it gives, for every number and base. -/
import Derived.Test.YtmimfljiighbaaaProg
import Derived.Test.YtmimfljiighbaaaRange
import Derived.Shelf.Abstract
import Derived.Shelf.RegionOpen
import Derived.WalkKit
import Derived.OwnWalkIn
import Derived.TacticsInMore
import Derived.LoopNIn
import Derived.LoopIn
import Derived.Lib.Hide
namespace Go.Proofs.Ytmimfljiighbaaa.Dg
open Go.RowKit Go.Shelf Go.Proofs.Ytmimfljiighbaaa.Rg
set_option linter.unusedVariables false
set_option linter.unusedSimpArgs false
attribute [local go_sem] Oper.semAt_some

def vD (n b k : Nat) : Nat := n / b ^ k
theorem vD_zero (n b : Nat) : vD n b 0 = n := by simp [vD]
theorem vD_succ (n b k : Nat) : vD n b (k + 1) = vD n b k / b := by unfold vD; rw [Nat.pow_succ, Nat.div_div_eq_div_mul]
theorem vD_le (n b k : Nat) : vD n b k ≤ n := Nat.div_le_self _ _
/-- How many digits. -/
def nD (b : Nat) (n : Nat) : Nat := if h : n < b ∨ b < 2 then 1 else nD b (n / b) + 1
termination_by n
decreasing_by exact Nat.div_lt_self (by omega) (by omega)
theorem nD_pos (b n : Nat) : 1 ≤ nD b n := by unfold nD; split <;> omega
theorem nD_more (b : Nat) (hb : 2 ≤ b) : ∀ n k, k + 1 < nD b n → b ≤ vD n b k := by
  intro n
  induction n using Nat.strongRecOn with
  | _ n ih =>
    intro k hk
    unfold nD at hk
    split at hk
    · omega
    · rename_i h
      cases k with
      | zero => simp [vD]; omega
      | succ k =>
        have := ih (n / b) (Nat.div_lt_self (by omega) (by omega)) k (by omega)
        unfold vD at this ⊢
        rwa [Nat.div_div_eq_div_mul, ← Nat.pow_succ'] at this
theorem nD_last (b : Nat) (hb : 2 ≤ b) : ∀ n k, nD b n = k + 1 → vD n b k < b := by
  intro n
  induction n using Nat.strongRecOn with
  | _ n ih =>
    intro k hk
    unfold nD at hk
    split at hk
    · obtain rfl : k = 0 := by omega
      simp [vD]; omega
    · rename_i h
      cases k with
      | zero => have := nD_pos b (n / b); omega
      | succ k =>
        have := ih (n / b) (Nat.div_lt_self (by omega) (by omega)) k (by omega)
        unfold vD at this ⊢
        rwa [Nat.div_div_eq_div_mul, ← Nat.pow_succ'] at this

set_option maxHeartbeats 1000000 in
theorem digits_in (F : Fence) (n : Nat) (hf : F.fn 49) (hro : F.round = none) (u b : Int) (w : World) :
    CallsIn F n Try.prog 49 #[.int .u64 u, .int .u64 b] w fun e w' => e = .returned (.func (.func 53) #[] #[.pointer (some ⟨w.heap.size, 0, none⟩), .pointer (some ⟨w.heap.size + 1, 0, none⟩)]) ∧ w' = (w.alloc (.cells #[.int .u64 u] 86)).alloc (.cells #[.int .u64 b] 86) := by
  refine callsIn_of_wp Try.func49 rfl hf ?_ hro
  simp only [Try.ntmps49, List.size_toArray, List.length_cons, List.length_nil, Nat.reduceAdd, Nat.reduceSub, Array.replicate_succ, Array.replicate_zero, List.push_toArray, List.append_toArray, List.nil_append, List.cons_append]
  gi_wp2
  go_ret
  exact ⟨rfl, rfl⟩

/-- What the iterator reads: the rest, and the base. -/
structure Held (Bn Bb : Nat) (v b : Nat) (W : World) : Prop where
  rest : W.cell? ⟨Bn, 0, none⟩ = some (.int .u64 v)
  free : W.frozen? ⟨Bn, 0, none⟩ = false
  base : W.cell? ⟨Bb, 0, none⟩ = some (.int .u64 b)

set_option maxRecDepth 100000 in
set_option maxHeartbeats 4000000 in
theorem digits_give (F : Fence) (n : Nat) (hf : F.fn 53) (hro : F.round = none) (hn : 1 ≤ n) (Bn Bb u b : Nat) (hne : Bn ≠ Bb) (hu : u ≤ 18446744073709551615) (hb : 2 ≤ b) (hb2 : b ≤ 255)
    (I M : Nat → World → Prop) (hI : ∀ k W, I k W → Held Bn Bb (vD u b k) b W) (hM : ∀ k W, M k W → Held Bn Bb (vD u b k) b W) :
    Gives F n Try.prog 53 #[.pointer (some ⟨Bn, 0, none⟩), .pointer (some ⟨Bb, 0, none⟩)] (fun x : Int => #[Value.int .u8 x]) (fun k => ((vD u b k % b : Nat) : Int)) (nD b u)
      (fun k W => W.setCell ⟨Bn, 0, none⟩ (.int .u64 (vD u b (k + 1) : Nat))) I M := by
  intro l W J K hJ hK hstep hY h0
  refine callsIn_of_wp Try.func53 rfl hf ?_ hro
  simp only [Try.ntmps53, List.size_toArray, List.length_cons, List.length_nil, Nat.reduceAdd, Nat.reduceSub, Array.replicate_succ, Array.replicate_zero, List.push_toArray, List.append_toArray, List.nil_append, List.cons_append]
  gi_wp2
  gi_loopw [] (fun wr => ∃ k : Nat, k < nD b u ∧ J k wr) (fun wr => match wr.cell? ⟨Bn, 0, none⟩ with | some v => (intOf v).toNat | none => 0)
  case atStart => exact ⟨0, nD_pos b u, h0⟩
  case round =>
    obtain ⟨k, hk, hj⟩ := hrel
    have hh := hI k wr (hJ k wr hj)
    have hc := hh.rest
    have hcb := hh.base
    have hv : vD u b k ≤ 18446744073709551615 := Nat.le_trans (vD_le u b k) hu
    obtain ⟨fn, tmps, assign, body, hy, hR⟩ := hY k wr hk hj
    generalize hvv : vD u b k = v at hy hc hv
    have hm : v % b < b := Nat.mod_lt _ (by omega)
    have e1 : ((v % b : Nat) : Int) = (v : Int) % (b : Int) := Int.natCast_emod _ _
    have hb1 : (1 : Int) ≤ (b : Int) := by omega
    have hm0 : 0 ≤ (v : Int) % (b : Int) := by omega
    have hm1 : (v : Int) % (b : Int) ≤ 255 := by omega
    have hz : ((b : Int) == 0) = false := beq_eq_false_iff_ne.2 (by omega)
    rw [e1] at hy
    clear e1
    gi_wp2
    refine hR.mono ?_
    rintro e W3 ⟨rfl, hk3⟩
    have hh3 := hM k W3 (hK k W3 hk3)
    have hc3 := hh3.rest
    have hf3 := hh3.free
    have hb3 := hh3.base
    rw [hvv] at hc3
    have HV := Lib.hid hvv
    clear hvv hh3
    by_cases hlt : v < b
    · have hN : nD b u = k + 1 := by
        apply Nat.le_antisymm _ (by omega)
        apply Nat.le_of_not_lt
        intro h
        have := nD_more b hb u k h
        rw [HV.out] at this
        omega
      have HN := Lib.hid hN
      clear hN
      have hq : decide ((b : Int) ≤ (v : Int)) = false := decide_eq_false (by omega)
      gi_wp2
      go_end0
      exact ⟨⟨_, rfl⟩, .inr ⟨k, HN.out, hk3⟩⟩
    · have hN : k + 1 < nD b u := by
        apply Nat.lt_of_le_of_ne (by omega)
        intro h
        have := nD_last b hb u k h.symm
        rw [HV.out] at this
        omega
      have hj3 := hstep k W3 hN hk3
      rw [vD_succ, HV.out, Int.natCast_ediv] at hj3
      have HJ := Lib.hid hj3
      clear hj3
      have hq : decide ((b : Int) ≤ (v : Int)) = true := decide_eq_true (by omega)
      have hd0 : 0 ≤ (v : Int) / (b : Int) := Int.ediv_nonneg (by omega) (by omega)
      have hd1 : (v : Int) / (b : Int) ≤ v := Int.ediv_le_self _ (by omega)
      gi_wp2
      refine ⟨⟨k + 1, hN, HJ.out⟩, ?_⟩
      rw [World.cell?_setCell_same' _ _ _ (by rw [hc3]; rfl), hc]
      have hlt2 : (v : Int) / (b : Int) < v := by
        have : v / b < v := Nat.div_lt_self (by omega) (by omega)
        rw [← Int.natCast_ediv]
        omega
      simp only [intOf]
      omega
end Go.Proofs.Ytmimfljiighbaaa.Dg
